/- Part of the proof of the statement NaturalTexts: lemmas on the model's steps, Lean functions that say what the program's functions compute, and proofs that the calls do just that. No hypothesis is added. -/
import Derived.Test.YtohkmnbnjacfaaaKNaturalTexts2
set_option linter.all false
namespace Go.Proofs.Ytohkmnbnjacfaaa.All
open Go.Proofs.YtohkmnbnjacfaaaX
open Go.RowKit Go.Proofs.YtohkmnbnjacfaaaW.PrintWords Go.Proofs.YtohkmnbnjacfaaaW.PrintLast Go.Proofs.YtohkmnbnjacfaaaW.PrintMore
attribute [local go_sem] max2_int min2_int max_two min_two max_three min_three max_four min_four
set_option linter.unusedVariables false
set_option linter.unusedSimpArgs false
mutual
def natural_Format.l0 : Nat → ByteArray → List Int → Option (ByteArray × Int)
 | 0, _, _ => none
 | k + 1, x0, x5 => if x0.toList = ([] : List UInt8) then (natural_Format.l1 k x5 ([] : List Int) (x5.length : Int) 0) else ((natural_Of.f 1000000000000000000).bind fun t787 => ((exact_NatDivMod.f k x0 t787).bind fun bt788 => ((exact_NatUint.f k bt788.2).bind fun bt790 => (if x5.length < 17592186044416 then (natural_Format.l0 k bt788.1 (x5 ++ [bt790.1])) else (none)))))
def natural_Format.l1 : Nat → List Int → List Int → Int → Int → Option (ByteArray × Int)
 | 0, _, _, _, _ => none
 | k + 1, x5, x10, x43, x44 => if x44 < x43 then (if 0 ≤ x44 then (if x44 < (x5.length : Int) then (natural_Format.l2 k x5 x10 x44 (rd x5 x44) 0 x43 x44) else (none)) else (none)) else (natural_Format.l3 k x10 0 (wrap64 ((x10.length : Int) - 1)))
def natural_Format.l2 : Nat → List Int → List Int → Int → Int → Int → Int → Int → Option (ByteArray × Int)
 | 0, _, _, _, _, _, _, _ => none
 | k + 1, x5, x10, x11, x12, x13, x43, x44 => if x13 < 18 then (if x12 > 0 then (if x10.length < 140737488355328 then (natural_Format.l2 k x5 (x10 ++ [(IntKind.u64.wrap (48 + (Int.tmod x12 10))) % 256]) x11 (IntKind.u64.wrap (Int.tdiv x12 10)) (wrap64 (x13 + 1)) x43 x44) else (none)) else (if x11 < (wrap64 ((x5.length : Int) - 1)) then (if x10.length < 140737488355328 then (natural_Format.l2 k x5 (x10 ++ [(IntKind.u64.wrap (48 + (Int.tmod x12 10))) % 256]) x11 (IntKind.u64.wrap (Int.tdiv x12 10)) (wrap64 (x13 + 1)) x43 x44) else (none)) else (natural_Format.l1 k x5 x10 x43 (wrap64 (x44 + 1))))) else (natural_Format.l1 k x5 x10 x43 (wrap64 (x44 + 1)))
def natural_Format.l3 : Nat → List Int → Int → Int → Option (ByteArray × Int)
 | 0, _, _, _ => none
 | k + 1, x10, x14, x15 => if x14 < x15 then (if 0 ≤ x15 then (if x15 < (x10.length : Int) then (if 0 ≤ x14 then (if x14 < (x10.length : Int) then (natural_Format.l3 k ((x10.set (x14 : Int).toNat (rd x10 x15)).set (x15 : Int).toNat (rd x10 x14)) (wrap64 (x14 + 1)) (wrap64 (x15 - 1))) else (none)) else (none)) else (none)) else (none)) else (some (strOfNums x10, 0))
end
def natural_Format.f (k : Nat) (a0 : ByteArray) : Option (ByteArray × Int) := (natural_first.f k (([a0] : List ByteArray))).bind fun t786 => (if t786 = 0 then (if a0.toList = ([] : List UInt8) then (some ((⟨#[48]⟩ : ByteArray), 0)) else (natural_Format.l0 k a0 ([] : List Int))) else (some ((⟨#[]⟩ : ByteArray), t786)))
theorem natural_Format.U1 {g : Prop} (h : g := by
 repeat' first
 | (with_reducible exact ih0 _ _)
 | (with_reducible exact ih1 _ _ _ _)
 | (with_reducible exact ih2 _ _ _ _ _ _ _)
 | (with_reducible exact ih3 _ _ _)
 | (with_reducible exact exact_NatDivMod.mono _ _ _)
 | (with_reducible exact exact_NatUint.mono _ _)
 | (with_reducible exact natural_first.mono _ _)
 | (with_reducible exact LeO.refl _)
 | (with_reducible exact LeO.none _)
 | (with_reducible refine LeO.ite ?_ ?_)
 | (with_reducible refine LeO.bind ?_ (fun _ => ?_))) : g := h
theorem natural_Format.mono_l : ∀ k, (∀ y0 y1, LeO (natural_Format.l0 k y0 y1) (natural_Format.l0 (k + 1) y0 y1)) ∧ (∀ y0 y1 y2 y3, LeO (natural_Format.l1 k y0 y1 y2 y3) (natural_Format.l1 (k + 1) y0 y1 y2 y3)) ∧ (∀ y0 y1 y2 y3 y4 y5 y6, LeO (natural_Format.l2 k y0 y1 y2 y3 y4 y5 y6) (natural_Format.l2 (k + 1) y0 y1 y2 y3 y4 y5 y6)) ∧ (∀ y0 y1 y2, LeO (natural_Format.l3 k y0 y1 y2) (natural_Format.l3 (k + 1) y0 y1 y2))
 | 0 => ⟨fun _ _ r h => by simp [natural_Format.l0] at h, fun _ _ _ _ r h => by simp [natural_Format.l1] at h, fun _ _ _ _ _ _ _ r h => by simp [natural_Format.l2] at h, fun _ _ _ r h => by simp [natural_Format.l3] at h⟩
 | k + 1 => by
  obtain ⟨ih0, ih1, ih2, ih3⟩ := natural_Format.mono_l k
  refine ⟨?_, ?_, ?_, ?_⟩
  ·intro y0 y1
   unfold natural_Format.l0
   exact natural_Format.U1
  ·intro y0 y1 y2 y3
   unfold natural_Format.l1
   exact natural_Format.U1
  ·intro y0 y1 y2 y3 y4 y5 y6
   unfold natural_Format.l2
   exact natural_Format.U1
  ·intro y0 y1 y2
   unfold natural_Format.l3
   exact natural_Format.U1
theorem natural_Format.mono : ∀ a0 k, LeO (natural_Format.f k a0) (natural_Format.f (k + 1) a0) := by
 intro a0 k
 obtain ⟨ih0, ih1, ih2, ih3⟩ := natural_Format.mono_l k
 unfold natural_Format.f
 exact natural_Format.U1
def natural_Format.T26 : Bool × List (List Nat × List Nat) := (true, [([], []), ([], []), ([], []), ([], []), ([], []), ([], []), ([4, 5], [4, 5]), ([6], [6]), ([], []), ([], []), ([8, 9], [8, 9]), ([10], [10]), ([0, 1, 0, 1, 4, 5, 6, 7, 11], [0, 1]), ([12, 7, 0, 1, 4, 5, 6, 7, 11], [7, 12]), ([2, 3, 0, 1, 2, 3, 4, 5, 6, 7, 8, 9, 10, 11, 12, 13], [2, 3]), ([14, 11, 13, 0, 1, 2, 3, 4, 5, 6, 7, 8, 9, 10, 11, 12, 13], [11, 14])])
def natural_Format.B26 : List Nat := [0, 0, 0, 0, 0, 0, 48, 112, 0, 0, 768, 1792, 4083, 8179, 16383, 32767]
theorem natural_Format.tab26 : rtab .any (opsOf Try.f43 26) = natural_Format.T26 := by kernel_rfl
theorem natural_Format.bits26 : waitsOk natural_Format.T26.2 natural_Format.B26 = true := by kernel_rfl
set_option maxHeartbeats 8000000 in
set_option maxRecDepth 100000 in
theorem natural_Format.calls (k : Nat) (a0 : ByteArray) (r1 : ByteArray) (r2 : Int) (w : World) (h : natural_Format.f k a0 = some (r1, r2)) :
  Calls Try.prog 43 #[.string a0] w fun e w' => e = .returned (.tuple #[.string r1, .int .i64 r2]) ∧ Below w.heap.size w w' := by
 have HB := Aside0.mk (Below.refl w.heap.size w)
 have H := h
 unfold natural_Format.f at H
 clear h
 generalize hy783 : (([a0] : List ByteArray)) = y783 at H
 have Ny783 := Aside0.mk hy783.symm
 clear hy783
 obtain ⟨t786, A2, H⟩ := ZO H
 by_cases c3 : t786 = 0
 ·rw [if_pos c3] at H
  have c3b0 : (t786 == 0) = true := beq_iff_eq.mpr c3
  have c3b1 : (t786 != 0) = false := bne_eq_false_iff_eq.mpr c3
  clear c3
  by_cases c4 : a0.toList = ([] : List UInt8)
  ·rw [if_pos c4] at H
   have c4b0 : (a0.toList == ([] : List UInt8)) = true := beq_iff_eq.mpr c4
   have c4b1 : (a0.toList != ([] : List UInt8)) = false := bne_eq_false_iff_eq.mpr c4
   clear c4
   simp only [Option.some.injEq, Prod.mk.injEq] at H
   obtain ⟨rfl, rfl⟩ := H
   go_enter Try.func43, Try.ntmps43
   go_wp2_with (first | ((with_reducible refine gate_dst (N := 17) rfl ?_); (try (refine gate_guard (by rfl) ?_; dsimp only)); refine Kd.R_lit Kd.string _ 22 ?hg (N := 17) ?hd (xs := ([a0] : List ByteArray)) (inner := [.string a0]) (ok := fun _ => True) (okp := fun _ => True) ?hr ?hp (fun _ hk => hk) trivial (Below.refl _ _) (Nat.le_refl _) (by simp) ?_; (case hd => rfl); (case hg => rfl); (case hr => first | (go_simp; done) | (go_simp; rfl)); (case hp => exact (Reps.one (show Kd.M Kd.string _ _ _ a0 [.string a0] from rfl) (Reps.none _ _))); intro v784 w5 ho6 hb hg_ hnew_; clear hg_ hnew_; (first | rw [← Ny783.out] at ho6 | (simp only [Int.reduceToNat] at ho6; rw [← Ny783.out] at ho6)); have HO785 := Aside0.mk (Kd.R_lower ho6 (below_size ZB)); replace HB := Aside0.mk (below_step ZB hb); clear hb ho6; obtain ⟨Ao7, co7, eo7⟩ := Kd.R_slice HO785.out; subst eo7) | ((with_reducible refine gate_callee (f := 47) rfl ?_); refine goesL_ (some 18) rfl rfl Try.func47 (by kernel_rfl) rfl #[.slice Ao7 y783.length co7] rfl ZA ?_; (with_reducible refine (natural_first.calls k _ _ y783 t786 _ ?side1 ?side2 A2.out).mono ?_); (case side1 => exact ZC (Kd.R_reads' HO785.out).2.2); (case side2 => exact (Kd.R_reads' HO785.out).2.1); rintro e w' ⟨rfl, ⟨nd, rfl⟩⟩; refine ⟨_, rfl, ?_⟩))
   go_ret2
   exact ⟨ZE, ZB⟩
  ·rw [if_neg c4] at H
   have c4b0 : (a0.toList == ([] : List UInt8)) = false := beq_eq_false_iff_ne.mpr c4
   have c4b1 : (a0.toList != ([] : List UInt8)) = true := bne_iff_ne.mpr c4
   have H' := Aside0.mk H
   clear H
   go_enter Try.func43, Try.ntmps43
   go_wp2_with (first | ((with_reducible refine gate_dst (N := 17) rfl ?_); (try (refine gate_guard (by rfl) ?_; dsimp only)); refine Kd.R_lit Kd.string _ 22 ?hg (N := 17) ?hd (xs := ([a0] : List ByteArray)) (inner := [.string a0]) (ok := fun _ => True) (okp := fun _ => True) ?hr ?hp (fun _ hk => hk) trivial (Below.refl _ _) (Nat.le_refl _) (by simp) ?_; (case hd => rfl); (case hg => rfl); (case hr => first | (go_simp; done) | (go_simp; rfl)); (case hp => exact (Reps.one (show Kd.M Kd.string _ _ _ a0 [.string a0] from rfl) (Reps.none _ _))); intro v784 w8 ho9 hb hg_ hnew_; clear hg_ hnew_; (first | rw [← Ny783.out] at ho9 | (simp only [Int.reduceToNat] at ho9; rw [← Ny783.out] at ho9)); have HO785 := Aside0.mk (Kd.R_lower ho9 (below_size ZB)); replace HB := Aside0.mk (below_step ZB hb); clear hb ho9; obtain ⟨Ao10, co10, eo10⟩ := Kd.R_slice HO785.out; subst eo10) | ((with_reducible refine gate_callee (f := 47) rfl ?_); refine goesL_ (some 18) rfl rfl Try.func47 (by kernel_rfl) rfl #[.slice Ao10 y783.length co10] rfl ZA ?_; (with_reducible refine (natural_first.calls k _ _ y783 t786 _ ?side1 ?side2 A2.out).mono ?_); (case side1 => exact ZC (Kd.R_reads' HO785.out).2.2); (case side2 => exact (Kd.R_reads' HO785.out).2.1); rintro e w' ⟨rfl, ⟨nd, rfl⟩⟩; refine ⟨_, rfl, ?_⟩))
   go_loopg [0, 5] k (fun kq v0 v5 w' => ∃ (x0_1 : ByteArray) (x5_1 : List Int), v0 = .string x0_1 ∧ Aside0 (natural_Format.l0 kq x0_1 x5_1 = some (r1, r2)) ∧ Aside0 (kq ≤ k) ∧ Aside0 (Kd.R (Kd.int .u64) 49 w' w.heap.size (fun _ => True) v5 x5_1) ∧ Aside0 (Below w.heap.size w w'))
   case atStart => exact ⟨(a0), (([] : List Int)), ZS, H', ⟨Nat.le_refl _⟩, ⟨by first | exact Kd.R_nil _ _ _ _ _ | exact Kd.N_nil _ _ _ _ _ | exact Kd.V_nil _ _ _ _ _ | exact Kd.Q_nil _ _ _ _ _ | exact Kd.S_nil _ _ _ _ _⟩, ⟨ZB⟩⟩
   case round =>
    clear H'
    try clear c3
    try clear c3b0
    try clear c3b1
    try clear c4
    try clear c4b0
    try clear c4b1
    obtain ⟨x0_1, x5_1, rfl, HA, HK1, HO_5, HB⟩ := hrel
    cases gk with
    | zero => exact absurd HA.out (by simp [natural_Format.l0])
    | succ k1 =>
     have H := HA.out
     clear HA
     simp only [natural_Format.l0] at H
     by_cases c11 : x0_1.toList = ([] : List UInt8)
     ·rw [if_pos c11] at H
      have c11b0 : (x0_1.toList == ([] : List UInt8)) = true := beq_iff_eq.mpr c11
      have c11b1 : (x0_1.toList != ([] : List UInt8)) = false := bne_eq_false_iff_eq.mpr c11
      clear c11
      have H' := Aside0.mk H
      clear H
      obtain ⟨Ao12, co12, eo12⟩ := Kd.R_slice HO_5.out
      subst eo12
      go_wp2
      go_loopg [10, 44] k1 (fun kq v10 v44 w' => ∃ (x10_2 : List Int) (x44_2 : Int), v44 = .int .i64 x44_2 ∧ Aside0 (natural_Format.l1 kq x5_1 x10_2 (x5_1.length : Int) x44_2 = some (r1, r2)) ∧ Aside0 (kq ≤ k1) ∧ Aside0 (Kd.R (Kd.int .u64) 49 w' w.heap.size (fun _ => True) (.slice Ao12 x5_1.length co12) x5_1) ∧ Aside0 (Kd.R (Kd.int .u8) 5 w' w.heap.size (fun _ => True) v10 x10_2) ∧ Aside0 (Below w.heap.size w w'))
      case atStart => exact ⟨(([] : List Int)), (0), ZS, H', ⟨Nat.le_refl _⟩, ⟨by (with_reducible repeat (first | apply Kd.R_alloc | apply Kd.R_drewN | apply Kd.R_drew)); exact HO_5.out⟩, ⟨by first | exact Kd.R_nil _ _ _ _ _ | exact Kd.N_nil _ _ _ _ _ | exact Kd.V_nil _ _ _ _ _ | exact Kd.Q_nil _ _ _ _ _ | exact Kd.S_nil _ _ _ _ _⟩, ⟨ZB⟩⟩
      case round =>
       clear H'
       try clear c11
       try clear c11b0
       try clear c11b1
       obtain ⟨x10_2, x44_2, rfl, HA, HK2, HO_5, HO_10, HB⟩ := hrel
       cases gk with
       | zero => exact absurd HA.out (by simp [natural_Format.l1])
       | succ k2 =>
        have H := HA.out
        clear HA
        simp only [natural_Format.l1] at H
        by_cases c13 : x44_2 < (x5_1.length : Int)
        ·rw [if_pos c13] at H
         have c13b0 : decide (x44_2 < (x5_1.length : Int)) = true := decide_eq_true c13
         clear c13
         obtain ⟨c14, H⟩ := ZI H
         have c14b0 : decide (0 ≤ x44_2) = true := decide_eq_true c14
         clear c14
         obtain ⟨c15, H⟩ := ZI H
         have c15b0 : decide (x44_2 < (x5_1.length : Int)) = true := decide_eq_true c15
         clear c15
         have H' := Aside0.mk H
         clear H
         have p795 : 0 ≤ (x44_2 : Int) := of_decide_eq_true ZD
         have q795 : x44_2 < (x5_1.length : Int) := of_decide_eq_true ZD
         obtain ⟨ad795, e795, hx795_0⟩ := Kd.at_int (Kd.R_reads' HO_5.out).2.2 x44_2 p795 q795
         cases e795
         replace p795 := eq_true p795
         replace q795 := eq_true q795
         go_wp2
         go_loopg [10, 12, 13] k2 (fun kq v10 v12 v13 w' => ∃ (x10_3 : List Int) (x12_3 : Int) (x13_3 : Int), v12 = .int .u64 x12_3 ∧ v13 = .int .i64 x13_3 ∧ Aside0 (natural_Format.l2 kq x5_1 x10_3 x44_2 x12_3 x13_3 (x5_1.length : Int) x44_2 = some (r1, r2)) ∧ Aside0 (kq ≤ k2) ∧ Aside0 (Kd.R (Kd.int .u64) 49 w' w.heap.size (fun _ => True) (.slice (some ad795) x5_1.length co12) x5_1) ∧ Aside0 (Kd.R (Kd.int .u8) 5 w' w.heap.size (fun _ => True) v10 x10_3) ∧ Aside0 (Below w.heap.size w w'))
         case atStart => exact ⟨(x10_2), (rd x5_1 x44_2), (0), ZS, ZS, H', ⟨Nat.le_refl _⟩, ⟨by (with_reducible repeat (first | apply Kd.R_alloc | apply Kd.R_drewN | apply Kd.R_drew)); exact HO_5.out⟩, ⟨by (with_reducible repeat (first | apply Kd.R_alloc | apply Kd.R_drewN | apply Kd.R_drew)); exact HO_10.out⟩, ⟨ZB⟩⟩
         case round =>
          clear H'
          try clear c13
          try clear c13b0
          try clear c14
          try clear c14b0
          try clear c15
          try clear c15b0
          try clear hx795_0
          try clear p795
          try clear q795
          obtain ⟨x10_3, x12_3, x13_3, rfl, rfl, HA, HK3, HO_5, HO_10, HB⟩ := hrel
          cases gk with
          | zero => exact absurd HA.out (by simp [natural_Format.l2])
          | succ k3 =>
           have H := HA.out
           clear HA
           simp only [natural_Format.l2] at H
           by_cases c16 : x13_3 < 18
           ·rw [if_pos c16] at H
            have c16b0 : decide (x13_3 < 18) = true := decide_eq_true c16
            clear c16
            by_cases c17 : x12_3 > 0
            ·rw [if_pos c17] at H
             have c17b0 : decide (0 < x12_3) = true := decide_eq_true c17
             clear c17
             obtain ⟨c18, H⟩ := ZI H
             have LMc18 := Aside0.mk c18
             clear c18
             obtain ⟨y796, hy796⟩ : ∃ y_ : List Int, y_ = (x10_3 ++ [(IntKind.u64.wrap (48 + (Int.tmod x12_3 10))) % 256]) := ⟨_, rfl⟩
             replace H : (natural_Format.l2 k3 x5_1 y796 x44_2 (IntKind.u64.wrap (Int.tdiv x12_3 10)) (wrap64 (x13_3 + 1)) (x5_1.length : Int) x44_2) = some (r1, r2) := ZH hy796 H
             have Ny796 := Aside0.mk hy796
             clear hy796
             have H' := Aside0.mk H
             clear H
             go_wp2_with (first | ((with_reducible refine gate_builtin (b := .append) (xs := #[.tmp 66, .tmp 71]) rfl ?_); (try (refine gate_guard (by rfl) ?_; dsimp only)); at_builtin; refine Kd.R_append (Kd.int .u8) (w0 := w) w.heap.size rfl (.tmp 66) (.tmp 71) 75 5 (.int .u8 0) 1 rfl Try.underlying75 info5 rfl (by decide) (by omega) u10 x10_3 ((IntKind.u64.wrap (48 + (Int.tmod x12_3 10))) % 256) [.int .u8 ((IntKind.u64.wrap (48 + (Int.tmod x12_3 10))) % 256)] (fun _ => True) (fun _ => False) rfl rfl ?aP (fun _ hk => hk.elim) ?aF ?aO ?aB ?aS ?aL ?_; (case aP => exact rfl); (case aB => exact ZB); (case aF => exact (fun _ _ => trivial)); (case aO => exact (ZR HO_10.out)); (case aS => exact (below_size ZB)); (case aL => have := LMc18.out; omega); intro v797 w19 ho hb hg hat; rw [← Ny796.out] at ho; replace HO_5 := Aside0.mk (Kd.R_over' (ZR HO_5.out) (Kd.R_typed (ZR HO_10.out)) (by decide) hg); replace HB := Aside0.mk (hb); have HO798 := Aside0.mk (ho); clear HO_10; clear ho hb hg hat))
             go_roundg k3
             case measure => have := HK1.out; have := HK2.out; have := HK3.out; omega
             case rel => exact ⟨(y796), (IntKind.u64.wrap (Int.tdiv x12_3 10)), (wrap64 (x13_3 + 1)), ZS, ZS, H', ⟨by have := HK1.out; have := HK2.out; have := HK3.out; omega⟩, ⟨by (with_reducible repeat (first | apply Kd.R_alloc | apply Kd.R_drewN | apply Kd.R_drew)); exact HO_5.out⟩, ⟨by (with_reducible repeat (first | apply Kd.R_alloc | apply Kd.R_drewN | apply Kd.R_drew)); exact HO798.out⟩, ⟨ZB⟩⟩
            ·rw [if_neg c17] at H
             have c17b0 : decide (0 < x12_3) = false := decide_eq_false c17
             clear c17
             by_cases c20 : x44_2 < (wrap64 ((x5_1.length : Int) - 1))
             ·rw [if_pos c20] at H
              have c20b0 : decide (x44_2 < (wrap64 ((x5_1.length : Int) - 1))) = true := decide_eq_true c20
              clear c20
              obtain ⟨c21, H⟩ := ZI H
              have LMc21 := Aside0.mk c21
              clear c21
              obtain ⟨y799, hy799⟩ : ∃ y_ : List Int, y_ = (x10_3 ++ [(IntKind.u64.wrap (48 + (Int.tmod x12_3 10))) % 256]) := ⟨_, rfl⟩
              replace H : (natural_Format.l2 k3 x5_1 y799 x44_2 (IntKind.u64.wrap (Int.tdiv x12_3 10)) (wrap64 (x13_3 + 1)) (x5_1.length : Int) x44_2) = some (r1, r2) := ZH hy799 H
              have Ny799 := Aside0.mk hy799
              clear hy799
              have H' := Aside0.mk H
              clear H
              go_wp2_with (first | ((with_reducible refine gate_builtin (b := .append) (xs := #[.tmp 66, .tmp 71]) rfl ?_); (try (refine gate_guard (by rfl) ?_; dsimp only)); at_builtin; refine Kd.R_append (Kd.int .u8) (w0 := w) w.heap.size rfl (.tmp 66) (.tmp 71) 75 5 (.int .u8 0) 1 rfl Try.underlying75 info5 rfl (by decide) (by omega) u10 x10_3 ((IntKind.u64.wrap (48 + (Int.tmod x12_3 10))) % 256) [.int .u8 ((IntKind.u64.wrap (48 + (Int.tmod x12_3 10))) % 256)] (fun _ => True) (fun _ => False) rfl rfl ?aP (fun _ hk => hk.elim) ?aF ?aO ?aB ?aS ?aL ?_; (case aP => exact rfl); (case aB => exact ZB); (case aF => exact (fun _ _ => trivial)); (case aO => exact (ZR HO_10.out)); (case aS => exact (below_size ZB)); (case aL => have := LMc21.out; omega); intro v800 w22 ho hb hg hat; rw [← Ny799.out] at ho; replace HO_5 := Aside0.mk (Kd.R_over' (ZR HO_5.out) (Kd.R_typed (ZR HO_10.out)) (by decide) hg); replace HB := Aside0.mk (hb); have HO801 := Aside0.mk (ho); clear HO_10; clear ho hb hg hat))
              go_roundg k3
              case measure => have := HK1.out; have := HK2.out; have := HK3.out; omega
              case rel => exact ⟨(y799), (IntKind.u64.wrap (Int.tdiv x12_3 10)), (wrap64 (x13_3 + 1)), ZS, ZS, H', ⟨by have := HK1.out; have := HK2.out; have := HK3.out; omega⟩, ⟨by (with_reducible repeat (first | apply Kd.R_alloc | apply Kd.R_drewN | apply Kd.R_drew)); exact HO_5.out⟩, ⟨by (with_reducible repeat (first | apply Kd.R_alloc | apply Kd.R_drewN | apply Kd.R_drew)); exact HO801.out⟩, ⟨ZB⟩⟩
             ·rw [if_neg c20] at H
              have c20b0 : decide (x44_2 < (wrap64 ((x5_1.length : Int) - 1))) = false := decide_eq_false c20
              clear c20
              have H' := Aside0.mk H
              clear H
              go_wp2
              go_roundg k3
              case measure => have := HK1.out; have := HK2.out; have := HK3.out; omega
              case rel => exact ⟨(x10_3), (wrap64 (x44_2 + 1)), ZS, H', ⟨by have := HK1.out; have := HK2.out; have := HK3.out; omega⟩, ⟨by (with_reducible repeat (first | apply Kd.R_alloc | apply Kd.R_drewN | apply Kd.R_drew)); exact HO_5.out⟩, ⟨by (with_reducible repeat (first | apply Kd.R_alloc | apply Kd.R_drewN | apply Kd.R_drew)); exact HO_10.out⟩, ⟨ZB⟩⟩
           ·rw [if_neg c16] at H
            have c16b0 : decide (x13_3 < 18) = false := decide_eq_false c16
            clear c16
            have H' := Aside0.mk H
            clear H
            go_wp2
            go_roundg k3
            case measure => have := HK1.out; have := HK2.out; have := HK3.out; omega
            case rel => exact ⟨(x10_3), (wrap64 (x44_2 + 1)), ZS, H', ⟨by have := HK1.out; have := HK2.out; have := HK3.out; omega⟩, ⟨by (with_reducible repeat (first | apply Kd.R_alloc | apply Kd.R_drewN | apply Kd.R_drew)); exact HO_5.out⟩, ⟨by (with_reducible repeat (first | apply Kd.R_alloc | apply Kd.R_drewN | apply Kd.R_drew)); exact HO_10.out⟩, ⟨ZB⟩⟩
        ·rw [if_neg c13] at H
         have c13b0 : decide (x44_2 < (x5_1.length : Int)) = false := decide_eq_false c13
         clear c13
         have H' := Aside0.mk H
         clear H
         obtain ⟨Ao23, co23, eo23⟩ := Kd.R_slice HO_10.out
         subst eo23
         go_wp2
         go_loopg [14, 15] k2 (fun kq v14 v15 w' => ∃ (x10_3 : List Int) (x14_3 : Int) (x15_3 : Int), v14 = .int .i64 x14_3 ∧ v15 = .int .i64 x15_3 ∧ Aside0 (natural_Format.l3 kq x10_3 x14_3 x15_3 = some (r1, r2)) ∧ Aside0 (kq ≤ k2) ∧ Aside0 (Kd.R (Kd.int .u8) 5 w' w.heap.size (fun _ => True) (.slice Ao23 x10_2.length co23) x10_3) ∧ Aside0 (Below w.heap.size w w'))
         case atStart => exact ⟨(x10_2), (0), (wrap64 ((x10_2.length : Int) - 1)), ZS, ZS, H', ⟨Nat.le_refl _⟩, ⟨by (with_reducible repeat (first | apply Kd.R_alloc | apply Kd.R_drewN | apply Kd.R_drew)); exact HO_10.out⟩, ⟨ZB⟩⟩
         case round =>
          clear H'
          try clear c13
          try clear c13b0
          obtain ⟨x10_3, x14_3, x15_3, rfl, rfl, HA, HK3, HO_10, HB⟩ := hrel
          have hl10_3 := (Kd.R_reads' HO_10.out).1
          rw [hl10_3] at HO_10
          (try simp only [hl10_3])
          cases gk with
          | zero => exact absurd HA.out (by simp [natural_Format.l3])
          | succ k3 =>
           have H := HA.out
           clear HA
           simp only [natural_Format.l3] at H
           by_cases c24 : x14_3 < x15_3
           ·rw [if_pos c24] at H
            have c24b0 : decide (x14_3 < x15_3) = true := decide_eq_true c24
            clear c24
            obtain ⟨c25, H⟩ := ZI H
            have c25b0 : decide (0 ≤ x15_3) = true := decide_eq_true c25
            clear c25
            obtain ⟨c26, H⟩ := ZI H
            have c26b0 : decide (x15_3 < (x10_3.length : Int)) = true := decide_eq_true c26
            (try (have c26b0y := c26b0; simp only [hl10_3] at c26b0y))
            clear c26
            obtain ⟨c27, H⟩ := ZI H
            have c27b0 : decide (0 ≤ x14_3) = true := decide_eq_true c27
            clear c27
            obtain ⟨c28, H⟩ := ZI H
            have c28b0 : decide (x14_3 < (x10_3.length : Int)) = true := decide_eq_true c28
            (try (have c28b0y := c28b0; simp only [hl10_3] at c28b0y))
            clear c28
            obtain ⟨y804, hy804⟩ : ∃ y_ : List Int, y_ = (x10_3.set (x14_3 : Int).toNat (rd x10_3 x15_3)) := ⟨_, rfl⟩
            replace H : (natural_Format.l3 k3 (y804.set (x15_3 : Int).toNat (rd x10_3 x14_3)) (wrap64 (x14_3 + 1)) (wrap64 (x15_3 - 1))) = some (r1, r2) := ZH hy804 H
            have Ny804 := Aside0.mk hy804
            clear hy804
            generalize hy805 : (y804.set (x15_3 : Int).toNat (rd x10_3 x14_3)) = y805 at H
            have Ny805 := Aside0.mk hy805.symm
            clear hy805
            have H' := Aside0.mk H
            clear H
            try go_wp2
            replace HO_10 := Aside0.mk (Kd.R_drew HO_10.out)
            replace HB := Aside0.mk (below_drew1 HB.out)
            have p802 : 0 ≤ (x15_3 : Int) := of_decide_eq_true ZD
            have q802 : x15_3 < (x10_3.length : Int) := of_decide_eq_true ZD
            obtain ⟨ad802, e802, hx802_0⟩ := Kd.at_int (Kd.R_reads' HO_10.out).2.2 x15_3 p802 q802
            cases e802
            replace p802 := eq_true p802
            replace q802 := eq_true q802
            have p803 : 0 ≤ (x14_3 : Int) := of_decide_eq_true ZD
            have q803 : x14_3 < (x10_3.length : Int) := of_decide_eq_true ZD
            obtain ⟨ad803, e803, hx803_0⟩ := Kd.at_int (Kd.R_reads' HO_10.out).2.2 x14_3 p803 q803
            obtain rfl : ad802 = ad803 := (by injection e803)
            replace p803 := eq_true p803
            replace q803 := eq_true q803
            have p29 : 0 ≤ (x14_3 : Int) := of_decide_eq_true ZD
            have q29 : (x14_3 : Int) < ((x10_3.length : Int) : Int) := of_decide_eq_true ZD
            obtain ⟨go29, co29, eo29, gb29, gl29, cl29, HG29⟩ := Kd.R_form HO_10.out (by omega)
            (first | cases eo29 | (injection eo29 with ea_ en_ ec_; (first | subst ea_ | (injection ea_ with ea_; subst ea_)); subst ec_; clear en_))
            have GB29 := Aside0.mk gb29
            have GG29 := Aside0.mk HG29
            clear gb29 gl29 HG29
            (first | simp only [add_plain] at hx802_0 | skip)
            (first | simp only [add_plain] at hx803_0 | skip)
            obtain ⟨hx29_0, hf29_0⟩ := Kd.R_celln 0 HO_10.out (x14_3 : Int) p29 q29; (try simp only [Int.toNat_natCast] at hx29_0 hf29_0)
            replace p29 := eq_true p29
            replace q29 := eq_true q29
            have HP32 := Kd.R_putn HO_10.out (x14_3 : Int) (rd x10_3 x15_3)
            rw [← Ny804.out] at HP32
            have HQ32 := Aside0.mk HP32
            clear HP32
            have p30 : 0 ≤ (x15_3 : Int) := of_decide_eq_true ZD
            have q30 : (x15_3 : Int) < ((x10_3.length : Int) : Int) := of_decide_eq_true ZD
            obtain ⟨hx30_0, hf30_0⟩ := Kd.R_celln 0 HQ32.out (x15_3 : Int) p30 q30; (try simp only [Int.toNat_natCast] at hx30_0 hf30_0)
            replace p30 := eq_true p30
            replace q30 := eq_true q30
            have HP33 := Kd.R_putn HQ32.out (x15_3 : Int) (rd x10_3 x14_3)
            rw [← Ny805.out] at HP33
            have HQ33 := Aside0.mk HP33
            clear HP33
            refine start_ (n := 16) (S := fun w' => w'.cell? ⟨go29, (x15_3).toNat, none⟩ = some (.int .u8 (rd x10_3 x15_3)) ∧ w'.cell? ⟨go29, (x14_3).toNat, none⟩ = some (.int .u8 (rd x10_3 x14_3))) (ds := [13, 15]) #[false, false, false, false, false, false, false, false, false, false, false, false, false, false, false, false] (by kernel_rfl) rfl rfl ⟨hx802_0, hx803_0⟩ (fun hHeld => ?_); refine with_tabW natural_Format.tab26 natural_Format.bits26 (fun HT_ HW_ => ?_)
            generalize wr.drew = w31 at HO_10 HB GG29 HQ32 HQ33 hf29_0 hf30_0 hx29_0 hx30_0 hx802_0 hx803_0 hHeld ⊢
            refine ZP 0 86 #[true, false, false, false, false, false, false, false, false, false, false, false, false, false, false, false] ?_
            refine ZP 1 87 #[true, true, false, false, false, false, false, false, false, false, false, false, false, false, false, false] ?_
            refine ZP 2 88 #[true, true, true, false, false, false, false, false, false, false, false, false, false, false, false, false] ?_
            refine ZP 3 89 #[true, true, true, true, false, false, false, false, false, false, false, false, false, false, false, false] ?_
            refine ZP 4 90 #[true, true, true, true, true, false, false, false, false, false, false, false, false, false, false, false] ?_
            refine ZP 5 91 #[true, true, true, true, true, true, false, false, false, false, false, false, false, false, false, false] ?_
            refine ZP 6 92 #[true, true, true, true, true, true, true, false, false, false, false, false, false, false, false, false] ?_
            refine ZP 8 94 #[true, true, true, true, true, true, true, false, true, false, false, false, false, false, false, false] ?_
            refine ZP 9 95 #[true, true, true, true, true, true, true, false, true, true, false, false, false, false, false, false] ?_
            refine ZP 10 96 #[true, true, true, true, true, true, true, false, true, true, true, false, false, false, false, false] ?_
            refine take_ (i := 7) (N := some 93) (v := ?_) (a' := ?_) #[true, true, true, true, true, true, true, true, true, true, true, false, false, false, false, false] rfl rfl (take_ofW HT_.out HW_.out (by kernel_rfl)) (fun _ _ _ h => h) (Or.inl ⟨by rfl, ?_⟩) hHeld ?_ ?_
            rotate_left
            ·rintro w' ⟨s0, s1⟩
             (try simp only [Int.toNat_natCast] at s0 s1)
             go_simp
             with_reducible rfl
            rotate_left
            ·simp only [Act.put, List.setIfInBounds_toArray, List.set_cons_zero, List.set_cons_succ, i64_w, i32_w]
             rfl
            refine take_ (i := 11) (N := some 97) (v := ?_) (a' := ?_) #[true, true, true, true, true, true, true, true, true, true, true, true, false, false, false, false] rfl rfl (take_ofW HT_.out HW_.out (by kernel_rfl)) (fun _ _ _ h => h) (Or.inl ⟨by rfl, ?_⟩) hHeld ?_ ?_
            rotate_left
            ·rintro w' ⟨s0, s1⟩
             (try simp only [Int.toNat_natCast] at s0 s1)
             go_simp
             with_reducible rfl
            rotate_left
            ·simp only [Act.put, List.setIfInBounds_toArray, List.set_cons_zero, List.set_cons_succ, i64_w, i32_w]
             rfl
            refine ZP 12 98 #[true, true, true, true, true, true, true, true, true, true, true, true, true, false, false, false] ?_
            refine last_ (i := 13) (N := none) #[true, true, true, true, true, true, true, true, true, true, true, true, true, true, false, false] rfl rfl (one_of HT_.out (by kernel_rfl)) (by decide) (fun K hK => ?_)
            refine skip_ (w1 := ?_) (by rfl) rfl ?_ ?_
            rotate_left
            ·go_simp
             rfl
            refine hK.out _ _ ?_
            clear hK K
            refine ZP 14 99 #[true, true, true, true, true, true, true, true, true, true, true, true, true, true, true, false] ?_
            refine last_ (i := 15) (N := none) #[true, true, true, true, true, true, true, true, true, true, true, true, true, true, true, true] rfl rfl (one_of HT_.out (by kernel_rfl)) (by decide) (fun K hK => ?_)
            refine skip_ (w1 := ?_) (by rfl) rfl ?_ ?_
            rotate_left
            ·go_simp
             rfl
            refine hK.out _ _ ?_
            clear hK K
            refine done_ (done_of HT_.out (by kernel_rfl)) ?_
            try go_wp2
            (try simp only [← hl10_3])
            go_roundg k3
            case measure => have := HK1.out; have := HK2.out; have := HK3.out; omega
            case rel => exact ⟨(y805), (wrap64 (x14_3 + 1)), (wrap64 (x15_3 - 1)), ZS, ZS, H', ⟨by have := HK1.out; have := HK2.out; have := HK3.out; omega⟩, ⟨by (try simp only [hl10_3]); (with_reducible repeat (first | apply Kd.R_alloc | apply Kd.R_drewN | apply Kd.R_drew)); exact HQ33.out⟩, ⟨ZBS⟩⟩
           ·rw [if_neg c24] at H
            have c24b0 : decide (x14_3 < x15_3) = false := decide_eq_false c24
            clear c24
            simp only [Option.some.injEq, Prod.mk.injEq] at H
            obtain ⟨rfl, rfl⟩ := H
            have hcv34 := own_string (P := Try.prog) Try.underlying75 Try.underlying5 Try.underlying9 (Kd.own_of_R HO_10.out)
            go_wp2
            go_ret2
            exact ⟨ZE, ZB⟩
     ·rw [if_neg c11] at H
      have c11b0 : (x0_1.toList == ([] : List UInt8)) = false := beq_eq_false_iff_ne.mpr c11
      have c11b1 : (x0_1.toList != ([] : List UInt8)) = true := bne_iff_ne.mpr c11
      obtain ⟨t787, A35, H⟩ := ZO H
      obtain ⟨⟨t788, t789⟩, A36, H⟩ := ZO H
      (try dsimp only at H)
      obtain ⟨⟨t790, t791⟩, A37, H⟩ := ZO H
      (try dsimp only at H)
      obtain ⟨c38, H⟩ := ZI H
      have LMc38 := Aside0.mk c38
      clear c38
      obtain ⟨y792, hy792⟩ : ∃ y_ : List Int, y_ = (x5_1 ++ [t790]) := ⟨_, rfl⟩
      replace H : (natural_Format.l0 k1 t788 y792) = some (r1, r2) := ZH hy792 H
      have Ny792 := Aside0.mk hy792
      clear hy792
      have H' := Aside0.mk H
      clear H
      go_wp2_with (first | ((with_reducible refine gate_callee (f := 30) rfl ?_); refine goesL_ (some 28) rfl rfl Try.func30 (by kernel_rfl) rfl #[.int .u64 1000000000000000000] rfl ZA ?_; (with_reducible refine (natural_Of.calls 1000000000000000000 t787 _ A35.out).mono ?_); rintro e w39 ⟨rfl, hb⟩; refine ⟨_, rfl, ?_⟩; replace HO_5 := Aside0.mk (Kd.R_below (ZR HO_5.out) hb); replace HB := Aside0.mk (below_step ZB hb); (try clear hb)) | ((with_reducible refine gate_callee (f := 48) rfl ?_); refine goesL_ (some 29) rfl rfl Try.func48 (by kernel_rfl) rfl #[.string x0_1, .string t787] rfl ZA ?_; (with_reducible refine (exact_NatDivMod.calls k1 x0_1 t787 t788 t789 _ A36.out).mono ?_); rintro e w40 ⟨rfl, hb⟩; refine ⟨_, rfl, ?_⟩; replace HO_5 := Aside0.mk (Kd.R_below (ZR HO_5.out) hb); replace HB := Aside0.mk (below_step ZB hb); (try clear hb)) | ((with_reducible refine gate_callee (f := 66) rfl ?_); refine goesL_ (some 34) rfl rfl Try.func66 (by kernel_rfl) rfl #[.string t789] rfl ZA ?_; (with_reducible refine (exact_NatUint.calls k1 t789 t790 t791 _ A37.out).mono ?_); rintro e w41 ⟨rfl, hb⟩; refine ⟨_, rfl, ?_⟩; replace HO_5 := Aside0.mk (Kd.R_below (ZR HO_5.out) hb); replace HB := Aside0.mk (below_step ZB hb); (try clear hb)) | ((with_reducible refine gate_builtin (b := .append) (xs := #[.tmp 37, .tmp 39]) rfl ?_); (try (refine gate_guard (by rfl) ?_; dsimp only)); at_builtin; refine Kd.R_append (Kd.int .u64) (w0 := w) w.heap.size rfl (.tmp 37) (.tmp 39) 68 49 (.int .u64 0) 8 rfl Try.underlying68 info49 rfl (by decide) (by omega) u5 x5_1 t790 [.int .u64 t790] (fun _ => True) (fun _ => False) rfl rfl ?aP (fun _ hk => hk.elim) ?aF ?aO ?aB ?aS ?aL ?_; (case aP => exact rfl); (case aB => exact ZB); (case aF => exact (fun _ _ => trivial)); (case aO => exact (ZR HO_5.out)); (case aS => exact (below_size ZB)); (case aL => have := LMc38.out; omega); intro v793 w42 ho hb hg hat; rw [← Ny792.out] at ho; replace HB := Aside0.mk (hb); have HO794 := Aside0.mk (ho); clear HO_5; clear ho hb hg hat))
      go_roundg k1
      case measure => have := HK1.out; omega
      case rel => exact ⟨(t788), (y792), ZS, H', ⟨by have := HK1.out; omega⟩, ⟨by (with_reducible repeat (first | apply Kd.R_alloc | apply Kd.R_drewN | apply Kd.R_drew)); exact HO794.out⟩, ⟨ZB⟩⟩
 ·rw [if_neg c3] at H
  have c3b0 : (t786 == 0) = false := beq_eq_false_iff_ne.mpr c3
  have c3b1 : (t786 != 0) = true := bne_iff_ne.mpr c3
  simp only [Option.some.injEq, Prod.mk.injEq] at H
  obtain ⟨rfl, rfl⟩ := H
  go_enter Try.func43, Try.ntmps43
  go_wp2_with (first | ((with_reducible refine gate_dst (N := 17) rfl ?_); (try (refine gate_guard (by rfl) ?_; dsimp only)); refine Kd.R_lit Kd.string _ 22 ?hg (N := 17) ?hd (xs := ([a0] : List ByteArray)) (inner := [.string a0]) (ok := fun _ => True) (okp := fun _ => True) ?hr ?hp (fun _ hk => hk) trivial (Below.refl _ _) (Nat.le_refl _) (by simp) ?_; (case hd => rfl); (case hg => rfl); (case hr => first | (go_simp; done) | (go_simp; rfl)); (case hp => exact (Reps.one (show Kd.M Kd.string _ _ _ a0 [.string a0] from rfl) (Reps.none _ _))); intro v784 w43 ho44 hb hg_ hnew_; clear hg_ hnew_; (first | rw [← Ny783.out] at ho44 | (simp only [Int.reduceToNat] at ho44; rw [← Ny783.out] at ho44)); have HO785 := Aside0.mk (Kd.R_lower ho44 (below_size ZB)); replace HB := Aside0.mk (below_step ZB hb); clear hb ho44; obtain ⟨Ao45, co45, eo45⟩ := Kd.R_slice HO785.out; subst eo45) | ((with_reducible refine gate_callee (f := 47) rfl ?_); refine goesL_ (some 18) rfl rfl Try.func47 (by kernel_rfl) rfl #[.slice Ao45 y783.length co45] rfl ZA ?_; (with_reducible refine (natural_first.calls k _ _ y783 t786 _ ?side1 ?side2 A2.out).mono ?_); (case side1 => exact ZC (Kd.R_reads' HO785.out).2.2); (case side2 => exact (Kd.R_reads' HO785.out).2.1); rintro e w' ⟨rfl, ⟨nd, rfl⟩⟩; refine ⟨_, rfl, ?_⟩))
  go_ret2
  exact ⟨ZE, ZB⟩
end Go.Proofs.Ytohkmnbnjacfaaa.All
namespace Go.Proofs.Ytohkmnbnjacfaaa.All
open Go.Proofs.YtohkmnbnjacfaaaX
open Go.RowKit Go.Proofs.YtohkmnbnjacfaaaW.PrintWords Go.Proofs.YtohkmnbnjacfaaaW.PrintLast Go.Proofs.YtohkmnbnjacfaaaW.PrintMore
attribute [local go_sem] max2_int min2_int max_two min_two max_three min_three max_four min_four
set_option linter.unusedVariables false
set_option linter.unusedSimpArgs false
mutual
def natural_Parse.j0 : Nat → ByteArray → Bool → Option (ByteArray × Int)
 | 0, _, _ => none
 | k + 1, x0, x24 => if x24 = true then (some ((⟨#[]⟩ : ByteArray), 11)) else (natural_Parse.l0 k x0 (x0.size : Int) 0)
def natural_Parse.l0 : Nat → ByteArray → Int → Int → Option (ByteArray × Int)
 | 0, _, _, _ => none
 | k + 1, x0, x26, x27 => if x27 < x26 then (if 0 ≤ x27 then (if x27 < (x0.size : Int) then (if (bt x0 x27) < 48 then (some ((⟨#[]⟩ : ByteArray), 11)) else (if (bt x0 x27) > 57 then (some ((⟨#[]⟩ : ByteArray), 11)) else (natural_Parse.l0 k x0 x26 (wrap64 (x27 + 1))))) else (none)) else (none)) else (natural_Parse.l1 k x0 (⟨#[]⟩ : ByteArray) 0)
def natural_Parse.l1 : Nat → ByteArray → ByteArray → Int → Option (ByteArray × Int)
 | 0, _, _, _ => none
 | k + 1, x0, x5, x6 => if x6 < (x0.size : Int) then (natural_Parse.l2 k x0 x5 x6 (mn (x0.size : Int) (wrap64 (x6 + 18))) 0 1) else ((natural_bounded.f x5).bind fun bt806 => (some (bt806.1, bt806.2)))
def natural_Parse.l2 : Nat → ByteArray → ByteArray → Int → Int → Int → Int → Option (ByteArray × Int)
 | 0, _, _, _, _, _, _ => none
 | k + 1, x0, x5, x6, x7, x8, x9 => if x6 < x7 then (if 0 ≤ x6 then (if x6 < (x0.size : Int) then (natural_Parse.l2 k x0 x5 (wrap64 (x6 + 1)) x7 (IntKind.u64.wrap ((IntKind.u64.wrap (10 * x8)) + (((bt x0 x6) - 48) % 256))) (IntKind.u64.wrap (10 * x9))) else (none)) else (none)) else ((natural_Of.f x9).bind fun t808 => ((exact_NatMul.f k x5 t808).bind fun t809 => ((natural_Of.f x8).bind fun t810 => ((exact_NatAdd.f k t809 t810).bind fun t811 => (natural_Parse.l1 k x0 t811 x6)))))
end
def natural_Parse.f (k : Nat) (a0 : ByteArray) : Option (ByteArray × Int) := if (a0.size : Int) > 4096 then (some ((⟨#[]⟩ : ByteArray), 12)) else (if a0.toList = ([] : List UInt8) then (natural_Parse.j0 k a0 true) else (if 0 < (a0.size : Int) then (if (bt a0 0) = 48 then (natural_Parse.j0 k a0 (decide ((a0.size : Int) > 1))) else (natural_Parse.j0 k a0 false)) else (none)))
theorem natural_Parse.U1 {g : Prop} (h : g := by
 repeat' first
 | (with_reducible exact ih0 _ _)
 | (with_reducible exact ih1 _ _ _)
 | (with_reducible exact ih2 _ _ _)
 | (with_reducible exact ih3 _ _ _ _ _ _)
 | (with_reducible exact exact_NatAdd.mono _ _ _)
 | (with_reducible exact exact_NatMul.mono _ _ _)
 | (with_reducible exact LeO.refl _)
 | (with_reducible exact LeO.none _)
 | (with_reducible refine LeO.ite ?_ ?_)
 | (with_reducible refine LeO.bind ?_ (fun _ => ?_))) : g := h
theorem natural_Parse.mono_l : ∀ k, (∀ y0 y1, LeO (natural_Parse.j0 k y0 y1) (natural_Parse.j0 (k + 1) y0 y1)) ∧ (∀ y0 y1 y2, LeO (natural_Parse.l0 k y0 y1 y2) (natural_Parse.l0 (k + 1) y0 y1 y2)) ∧ (∀ y0 y1 y2, LeO (natural_Parse.l1 k y0 y1 y2) (natural_Parse.l1 (k + 1) y0 y1 y2)) ∧ (∀ y0 y1 y2 y3 y4 y5, LeO (natural_Parse.l2 k y0 y1 y2 y3 y4 y5) (natural_Parse.l2 (k + 1) y0 y1 y2 y3 y4 y5))
 | 0 => ⟨fun _ _ r h => by simp [natural_Parse.j0] at h, fun _ _ _ r h => by simp [natural_Parse.l0] at h, fun _ _ _ r h => by simp [natural_Parse.l1] at h, fun _ _ _ _ _ _ r h => by simp [natural_Parse.l2] at h⟩
 | k + 1 => by
  obtain ⟨ih0, ih1, ih2, ih3⟩ := natural_Parse.mono_l k
  refine ⟨?_, ?_, ?_, ?_⟩
  ·intro y0 y1
   unfold natural_Parse.j0
   exact natural_Parse.U1
  ·intro y0 y1 y2
   unfold natural_Parse.l0
   exact natural_Parse.U1
  ·intro y0 y1 y2
   unfold natural_Parse.l1
   exact natural_Parse.U1
  ·intro y0 y1 y2 y3 y4 y5
   unfold natural_Parse.l2
   exact natural_Parse.U1
theorem natural_Parse.mono : ∀ a0 k, LeO (natural_Parse.f k a0) (natural_Parse.f (k + 1) a0) := by
 intro a0 k
 obtain ⟨ih0, ih1, ih2, ih3⟩ := natural_Parse.mono_l k
 unfold natural_Parse.f
 exact natural_Parse.U1
theorem natural_Parse.M1 {g : Prop} (h : g := by
 go_wp2
 go_meet
 case rel => exact ⟨_, _, ZS, H', ⟨ZN⟩, ⟨ZB⟩⟩) : g := h
set_option maxHeartbeats 8000000 in
set_option maxRecDepth 100000 in
theorem natural_Parse.calls (k : Nat) (a0 : ByteArray) (r1 : ByteArray) (r2 : Int) (w : World) (h : natural_Parse.f k a0 = some (r1, r2)) :
  Calls Try.prog 44 #[.string a0] w fun e w' => e = .returned (.tuple #[.string r1, .int .i64 r2]) ∧ Below w.heap.size w w' := by
 have HB := Aside0.mk (Below.refl w.heap.size w)
 have H := h
 unfold natural_Parse.f at H
 clear h
 by_cases c2 : (a0.size : Int) > 4096
 ·rw [if_pos c2] at H
  have c2b0 : decide (4096 < (a0.size : Int)) = true := decide_eq_true c2
  have c2b1 : decide (4096 < a0.size) = true := decide_eq_true (by omega)
  clear c2
  simp only [Option.some.injEq, Prod.mk.injEq] at H
  obtain ⟨rfl, rfl⟩ := H
  go_enter Try.func44, Try.ntmps44
  go_wp2
  go_ret2
  exact ⟨ZE, ZB⟩
 ·rw [if_neg c2] at H
  have c2b0 : decide (4096 < (a0.size : Int)) = false := decide_eq_false c2
  have c2b1 : decide (4096 < a0.size) = false := decide_eq_false (by omega)
  clear c2
  have HC3 := Aside0.mk H
  clear H
  go_enter Try.func44, Try.ntmps44
  go_upto_region 3 with (fail)
  go_cut [24] (fun v24 wc => ∃ (kq : Nat) (x24_2 : Bool), v24 = .bool x24_2 ∧ Aside0 (natural_Parse.j0 kq a0 x24_2 = some (r1, r2)) ∧ Aside0 (kq ≤ k) ∧ Aside0 (Below w.heap.size w wc))
  case first =>
   have H := HC3.out
   clear HC3
   by_cases c4 : a0.toList = ([] : List UInt8)
   ·rw [if_pos c4] at H
    have c4b0 : (a0.toList == ([] : List UInt8)) = true := beq_iff_eq.mpr c4
    have c4b1 : (a0.toList != ([] : List UInt8)) = false := bne_eq_false_iff_eq.mpr c4
    clear c4
    (first | rw [c4b0] | rw [c4b1] | (simp only [i64_w, i32_w]; rw [c4b0]) | skip)
    have H' := Aside0.mk H
    clear H
    go_wp2
    go_meet
    case rel => exact ⟨_, (true), ZS, H', ⟨ZN⟩, ⟨ZB⟩⟩
   ·rw [if_neg c4] at H
    have c4b0 : (a0.toList == ([] : List UInt8)) = false := beq_eq_false_iff_ne.mpr c4
    have c4b1 : (a0.toList != ([] : List UInt8)) = true := bne_iff_ne.mpr c4
    (first | rw [c4b0] | rw [c4b1] | (simp only [i64_w, i32_w]; rw [c4b0]) | skip)
    obtain ⟨c5, H⟩ := ZI H
    have c5b0 : decide (0 < (a0.size : Int)) = true := decide_eq_true c5
    have c5b1 : decide (0 < a0.size) = true := decide_eq_true (by omega)
    clear c5
    by_cases c7 : (bt a0 0) = 48
    ·rw [if_pos c7] at H
     have c7b0 : ((bt a0 0) == 48) = true := beq_iff_eq.mpr c7
     have c7b1 : ((bt a0 0) != 48) = false := bne_eq_false_iff_eq.mpr c7
     clear c7
     have H' := Aside0.mk H
     clear H
     have p6 : 0 ≤ (0 : Int) := (by omega)
     have q6 : 0 < a0.size := (by have : (0 : Int) < (a0.size : Int) := of_decide_eq_true ZD; omega)
     have hx6 : ∀ h : 0 < a0.size, ((a0[0]'h).toNat : Int) = bt a0 0 := bt_at a0 0
     clear p6
     have qi6 : (0 < (a0.size : Int)) = True := eq_true (of_decide_eq_true ZD)
     replace q6 := eq_true q6
     exact natural_Parse.M1
    ·rw [if_neg c7] at H
     have c7b0 : ((bt a0 0) == 48) = false := beq_eq_false_iff_ne.mpr c7
     have c7b1 : ((bt a0 0) != 48) = true := bne_iff_ne.mpr c7
     have H' := Aside0.mk H
     clear H
     have p6 : 0 ≤ (0 : Int) := (by omega)
     have q6 : 0 < a0.size := (by have : (0 : Int) < (a0.size : Int) := of_decide_eq_true ZD; omega)
     have hx6 : ∀ h : 0 < a0.size, ((a0[0]'h).toNat : Int) = bt a0 0 := bt_at a0 0
     clear p6
     have qi6 : (0 < (a0.size : Int)) = True := eq_true (of_decide_eq_true ZD)
     replace q6 := eq_true q6
     exact natural_Parse.M1
  case rest =>
   clear HC3
   try clear c2
   try clear c2b0
   try clear c2b1
   obtain ⟨kq, x24_2, rfl, HA, HJ2, HB⟩ := hcut
   cases kq with
   | zero => exact absurd HA.out (by simp [natural_Parse.j0])
   | succ kj2 =>
    have H := HA.out
    clear HA
    simp only [natural_Parse.j0] at H
    by_cases c8 : x24_2 = true
    ·subst c8
     rw [if_pos rfl] at H
     simp only [Option.some.injEq, Prod.mk.injEq] at H
     obtain ⟨rfl, rfl⟩ := H
     go_wp2
     go_ret2
     exact ⟨ZE, ZB⟩
    ·replace c8 := Bool.eq_false_iff.mpr c8
     subst c8
     rw [if_neg Bool.false_ne_true] at H
     have H' := Aside0.mk H
     clear H
     go_wp2
     go_loopg [27] kj2 (fun kq v27 w' => ∃ (x27_2 : Int), v27 = .int .i64 x27_2 ∧ Aside0 (natural_Parse.l0 kq a0 (a0.size : Int) x27_2 = some (r1, r2)) ∧ Aside0 (kq ≤ kj2) ∧ Aside0 (Below w.heap.size w w'))
     case atStart => exact ⟨(0), ZS, H', ⟨Nat.le_refl _⟩, ⟨ZB⟩⟩
     case round =>
      clear H'
      try clear c8
      obtain ⟨x27_2, rfl, HA, HK2, HB⟩ := hrel
      cases gk with
      | zero => exact absurd HA.out (by simp [natural_Parse.l0])
      | succ k2 =>
       have H := HA.out
       clear HA
       simp only [natural_Parse.l0] at H
       by_cases c9 : x27_2 < (a0.size : Int)
       ·rw [if_pos c9] at H
        have c9b0 : decide (x27_2 < (a0.size : Int)) = true := decide_eq_true c9
        clear c9
        obtain ⟨c10, H⟩ := ZI H
        have c10b0 : decide (0 ≤ x27_2) = true := decide_eq_true c10
        clear c10
        obtain ⟨c11, H⟩ := ZI H
        have c11b0 : decide (x27_2 < (a0.size : Int)) = true := decide_eq_true c11
        clear c11
        by_cases c13 : (bt a0 x27_2) < 48
        ·rw [if_pos c13] at H
         have c13b0 : decide ((bt a0 x27_2) < 48) = true := decide_eq_true c13
         clear c13
         simp only [Option.some.injEq, Prod.mk.injEq] at H
         obtain ⟨rfl, rfl⟩ := H
         have p12 : 0 ≤ (x27_2 : Int) := of_decide_eq_true ZD
         have q12 : x27_2 < (a0.size : Int) := of_decide_eq_true ZD
         have hx12 := bt_at a0 x27_2
         replace p12 := eq_true p12
         replace q12 := eq_true q12
         go_wp2
         go_ret2
         exact ⟨ZE, ZB⟩
        ·rw [if_neg c13] at H
         have c13b0 : decide ((bt a0 x27_2) < 48) = false := decide_eq_false c13
         clear c13
         by_cases c15 : (bt a0 x27_2) > 57
         ·rw [if_pos c15] at H
          have c15b0 : decide (57 < (bt a0 x27_2)) = true := decide_eq_true c15
          clear c15
          simp only [Option.some.injEq, Prod.mk.injEq] at H
          obtain ⟨rfl, rfl⟩ := H
          have p12 : 0 ≤ (x27_2 : Int) := of_decide_eq_true ZD
          have q12 : x27_2 < (a0.size : Int) := of_decide_eq_true ZD
          have hx12 := bt_at a0 x27_2
          replace p12 := eq_true p12
          replace q12 := eq_true q12
          have p14 : 0 ≤ (x27_2 : Int) := of_decide_eq_true ZD
          have q14 : x27_2 < (a0.size : Int) := of_decide_eq_true ZD
          have hx14 := bt_at a0 x27_2
          replace p14 := eq_true p14
          replace q14 := eq_true q14
          go_wp2
          go_ret2
          exact ⟨ZE, ZB⟩
         ·rw [if_neg c15] at H
          have c15b0 : decide (57 < (bt a0 x27_2)) = false := decide_eq_false c15
          clear c15
          have H' := Aside0.mk H
          clear H
          have p12 : 0 ≤ (x27_2 : Int) := of_decide_eq_true ZD
          have q12 : x27_2 < (a0.size : Int) := of_decide_eq_true ZD
          have hx12 := bt_at a0 x27_2
          replace p12 := eq_true p12
          replace q12 := eq_true q12
          have p14 : 0 ≤ (x27_2 : Int) := of_decide_eq_true ZD
          have q14 : x27_2 < (a0.size : Int) := of_decide_eq_true ZD
          have hx14 := bt_at a0 x27_2
          replace p14 := eq_true p14
          replace q14 := eq_true q14
          go_wp2
          go_roundg k2
          case measure => have := HJ2.out; have := HK2.out; omega
          case rel => exact ⟨(wrap64 (x27_2 + 1)), ZS, H', ⟨by have := HJ2.out; have := HK2.out; omega⟩, ⟨ZB⟩⟩
       ·rw [if_neg c9] at H
        have c9b0 : decide (x27_2 < (a0.size : Int)) = false := decide_eq_false c9
        clear c9
        have H' := Aside0.mk H
        clear H
        go_wp2
        go_loopg [5, 6] k2 (fun kq v5 v6 w' => ∃ (x5_3 : ByteArray) (x6_3 : Int), v5 = .string x5_3 ∧ v6 = .int .i64 x6_3 ∧ Aside0 (natural_Parse.l1 kq a0 x5_3 x6_3 = some (r1, r2)) ∧ Aside0 (kq ≤ k2) ∧ Aside0 (Below w.heap.size w w'))
        case atStart => exact ⟨((⟨#[]⟩ : ByteArray)), (0), ZS, ZS, H', ⟨Nat.le_refl _⟩, ⟨ZB⟩⟩
        case round =>
         clear H'
         try clear c9
         try clear c9b0
         obtain ⟨x5_3, x6_3, rfl, rfl, HA, HK3, HB⟩ := hrel
         cases gk with
         | zero => exact absurd HA.out (by simp [natural_Parse.l1])
         | succ k3 =>
          have H := HA.out
          clear HA
          simp only [natural_Parse.l1] at H
          by_cases c16 : x6_3 < (a0.size : Int)
          ·rw [if_pos c16] at H
           have c16b0 : decide (x6_3 < (a0.size : Int)) = true := decide_eq_true c16
           clear c16
           obtain ⟨ji17, hji17⟩ : ∃ j_ : Int, (mn (a0.size : Int) (wrap64 (x6_3 + 18))) = j_ := ⟨_, rfl⟩
           (first | rw [hji17] at H | simp only [hji17] at H)
           have hji17_ : (if (wrap64 (x6_3 + 18)) < (a0.size : Int) then (wrap64 (x6_3 + 18)) else (a0.size : Int)) = ji17 := hji17
           have H' := Aside0.mk H
           clear H
           go_wp2
           go_loopg [6, 8, 9] k3 (fun kq v6 v8 v9 w' => ∃ (x6_4 : Int) (x8_4 : Int) (x9_4 : Int), v6 = .int .i64 x6_4 ∧ v8 = .int .u64 x8_4 ∧ v9 = .int .u64 x9_4 ∧ Aside0 (natural_Parse.l2 kq a0 x5_3 x6_4 ji17 x8_4 x9_4 = some (r1, r2)) ∧ Aside0 (kq ≤ k3) ∧ Aside0 (Below w.heap.size w w'))
           case atStart => exact ⟨(x6_3), (0), (1), ZS, ZS, ZS, H', ⟨Nat.le_refl _⟩, ⟨ZB⟩⟩
           case round =>
            clear H'
            try clear c16
            try clear c16b0
            obtain ⟨x6_4, x8_4, x9_4, rfl, rfl, rfl, HA, HK4, HB⟩ := hrel
            cases gk with
            | zero => exact absurd HA.out (by simp [natural_Parse.l2])
            | succ k4 =>
             have H := HA.out
             clear HA
             simp only [natural_Parse.l2] at H
             by_cases c18 : x6_4 < ji17
             ·rw [if_pos c18] at H
              have c18b0 : decide (x6_4 < ji17) = true := decide_eq_true c18
              clear c18
              obtain ⟨c19, H⟩ := ZI H
              have c19b0 : decide (0 ≤ x6_4) = true := decide_eq_true c19
              clear c19
              obtain ⟨c20, H⟩ := ZI H
              have c20b0 : decide (x6_4 < (a0.size : Int)) = true := decide_eq_true c20
              clear c20
              have H' := Aside0.mk H
              clear H
              have p21 : 0 ≤ (x6_4 : Int) := of_decide_eq_true ZD
              have q21 : x6_4 < (a0.size : Int) := of_decide_eq_true ZD
              have hx21 := bt_at a0 x6_4
              replace p21 := eq_true p21
              replace q21 := eq_true q21
              go_wp2
              go_roundg k4
              case measure => have := HJ2.out; have := HK2.out; have := HK3.out; have := HK4.out; omega
              case rel => exact ⟨(wrap64 (x6_4 + 1)), (IntKind.u64.wrap ((IntKind.u64.wrap (10 * x8_4)) + (((bt a0 x6_4) - 48) % 256))), (IntKind.u64.wrap (10 * x9_4)), ZS, ZS, ZS, H', ⟨by have := HJ2.out; have := HK2.out; have := HK3.out; have := HK4.out; omega⟩, ⟨ZB⟩⟩
             ·rw [if_neg c18] at H
              have c18b0 : decide (x6_4 < ji17) = false := decide_eq_false c18
              clear c18
              obtain ⟨t808, A22, H⟩ := ZO H
              obtain ⟨t809, A23, H⟩ := ZO H
              obtain ⟨t810, A24, H⟩ := ZO H
              obtain ⟨t811, A25, H⟩ := ZO H
              have H' := Aside0.mk H
              clear H
              go_wp2_with (first | ((with_reducible refine gate_callee (f := 30) rfl ?_); refine goesL_ (some 67) rfl rfl Try.func30 (by kernel_rfl) rfl #[.int .u64 x9_4] rfl ZA ?_; (with_reducible refine (natural_Of.calls x9_4 t808 _ A22.out).mono ?_); rintro e w26 ⟨rfl, hb⟩; refine ⟨_, rfl, ?_⟩; replace HB := Aside0.mk (below_step ZB hb); (try clear hb)) | ((with_reducible refine gate_callee (f := 62) rfl ?_); refine goesL_ (some 68) rfl rfl Try.func62 (by kernel_rfl) rfl #[.string x5_3, .string t808] rfl ZA ?_; (with_reducible refine (exact_NatMul.calls k4 x5_3 t808 t809 _ A23.out).mono ?_); rintro e w27 ⟨rfl, hb⟩; refine ⟨_, rfl, ?_⟩; replace HB := Aside0.mk (below_step ZB hb); (try clear hb)) | ((with_reducible refine gate_callee (f := 30) rfl ?_); refine goesL_ (some 70) rfl rfl Try.func30 (by kernel_rfl) rfl #[.int .u64 x8_4] rfl ZA ?_; (with_reducible refine (natural_Of.calls x8_4 t810 _ A24.out).mono ?_); rintro e w28 ⟨rfl, hb⟩; refine ⟨_, rfl, ?_⟩; replace HB := Aside0.mk (below_step ZB hb); (try clear hb)) | ((with_reducible refine gate_callee (f := 63) rfl ?_); refine goesL_ (some 71) rfl rfl Try.func63 (by kernel_rfl) rfl #[.string t809, .string t810] rfl ZA ?_; (with_reducible refine (exact_NatAdd.calls k4 t809 t810 t811 _ A25.out).mono ?_); rintro e w29 ⟨rfl, hb⟩; refine ⟨_, rfl, ?_⟩; replace HB := Aside0.mk (below_step ZB hb); (try clear hb)))
              go_roundg k4
              case measure => have := HJ2.out; have := HK2.out; have := HK3.out; have := HK4.out; omega
              case rel => exact ⟨(t811), (x6_4), ZS, ZS, H', ⟨by have := HJ2.out; have := HK2.out; have := HK3.out; have := HK4.out; omega⟩, ⟨ZB⟩⟩
          ·rw [if_neg c16] at H
           have c16b0 : decide (x6_3 < (a0.size : Int)) = false := decide_eq_false c16
           clear c16
           obtain ⟨⟨t806, t807⟩, A30, H⟩ := ZO H
           (try dsimp only at H)
           simp only [Option.some.injEq, Prod.mk.injEq] at H
           obtain ⟨rfl, rfl⟩ := H
           go_wp2_with (first | ((with_reducible refine gate_callee (f := 55) rfl ?_); refine goesL_ (some 73) rfl rfl Try.func55 (by kernel_rfl) rfl #[.string x5_3] rfl ZA ?_; (with_reducible refine (natural_bounded.calls x5_3 t806 t807 _ A30.out).mono ?_); rintro e w' ⟨rfl, ⟨nd, rfl⟩⟩; refine ⟨_, rfl, ?_⟩))
           go_ret2
           exact ⟨ZE, ZB⟩
end Go.Proofs.Ytohkmnbnjacfaaa.All
namespace Go.Proofs.Ytohkmnbnjacfaaa.All
open Go.Proofs.YtohkmnbnjacfaaaX
open Go.RowKit Go.Proofs.YtohkmnbnjacfaaaW.PrintWords Go.Proofs.YtohkmnbnjacfaaaW.PrintLast Go.Proofs.YtohkmnbnjacfaaaW.PrintMore
attribute [local go_sem] max2_int min2_int max_two min_two max_three min_three max_four min_four
set_option linter.unusedVariables false
set_option linter.unusedSimpArgs false
mutual
def galoisref01_Digits.j0 : Nat → ByteArray → Bool → Option (ByteArray × Bool)
 | 0, _, _ => none
 | k + 1, x0, x19 => if x19 = true then (some ((⟨#[]⟩ : ByteArray), false)) else (galoisref01_Digits.l0 k x0 ([] : List Int) 0)
def galoisref01_Digits.l0 : Nat → ByteArray → List Int → Int → Option (ByteArray × Bool)
 | 0, _, _, _ => none
 | k + 1, x0, x4, x5 => if x5 < (x0.size : Int) then (if 0 ≤ x5 then (if (bt x0 x5) < 48 then (galoisref01_Digits.j2 k x0 x4 x5 true) else (galoisref01_Digits.j2 k x0 x4 x5 (decide ((bt x0 x5) > 57)))) else (none)) else ((galoisref01_pack.f k x4).bind fun t812 => (some (t812, true)))
def galoisref01_Digits.j2 : Nat → ByteArray → List Int → Int → Bool → Option (ByteArray × Bool)
 | 0, _, _, _, _ => none
 | k + 1, x0, x4, x5, x35 => if x35 = true then (some ((⟨#[]⟩ : ByteArray), false)) else (if 0 ≤ x5 then (if x5 < (x0.size : Int) then (galoisref01_Digits.l1 k x0 x4 x5 (((bt x0 x5) - 48) % 256) 0) else (none)) else (none))
def galoisref01_Digits.l1 : Nat → ByteArray → List Int → Int → Int → Int → Option (ByteArray × Bool)
 | 0, _, _, _, _, _ => none
 | k + 1, x0, x4, x5, x6, x7 => if x7 < (x4.length : Int) then (if 0 ≤ x7 then (galoisref01_Digits.l1 k x0 (x4.set (x7 : Int).toNat (Go.bits .and .u64 (IntKind.u64.wrap (x6 + (IntKind.u64.wrap ((rd x4 x7) * 10)))) 4294967295)) x5 ((IntKind.u64.wrap (x6 + (IntKind.u64.wrap ((rd x4 x7) * 10)))) / 4294967296) (wrap64 (x7 + 1))) else (none)) else (if x6 > 0 then (if x4.length < 17592186044416 then (galoisref01_Digits.l0 k x0 (x4 ++ [x6]) (wrap64 (x5 + 1))) else (none)) else (galoisref01_Digits.l0 k x0 x4 (wrap64 (x5 + 1))))
end
def galoisref01_Digits.f (k : Nat) (a0 : ByteArray) : Option (ByteArray × Bool) := if a0.toList = ([] : List UInt8) then (galoisref01_Digits.j0 k a0 true) else (if (a0.size : Int) > 1 then (if 0 < (a0.size : Int) then (galoisref01_Digits.j0 k a0 ((bt a0 0) == 48)) else (none)) else (galoisref01_Digits.j0 k a0 false))
theorem galoisref01_Digits.U1 {g : Prop} (h : g := by
 repeat' first
 | (with_reducible exact ih0 _ _)
 | (with_reducible exact ih1 _ _ _)
 | (with_reducible exact ih2 _ _ _ _)
 | (with_reducible exact ih3 _ _ _ _ _)
 | (with_reducible exact galoisref01_pack.mono _ _)
 | (with_reducible exact LeO.refl _)
 | (with_reducible exact LeO.none _)
 | (with_reducible refine LeO.ite ?_ ?_)
 | (with_reducible refine LeO.bind ?_ (fun _ => ?_))) : g := h
theorem galoisref01_Digits.mono_l : ∀ k, (∀ y0 y1, LeO (galoisref01_Digits.j0 k y0 y1) (galoisref01_Digits.j0 (k + 1) y0 y1)) ∧ (∀ y0 y1 y2, LeO (galoisref01_Digits.l0 k y0 y1 y2) (galoisref01_Digits.l0 (k + 1) y0 y1 y2)) ∧ (∀ y0 y1 y2 y3, LeO (galoisref01_Digits.j2 k y0 y1 y2 y3) (galoisref01_Digits.j2 (k + 1) y0 y1 y2 y3)) ∧ (∀ y0 y1 y2 y3 y4, LeO (galoisref01_Digits.l1 k y0 y1 y2 y3 y4) (galoisref01_Digits.l1 (k + 1) y0 y1 y2 y3 y4))
 | 0 => ⟨fun _ _ r h => by simp [galoisref01_Digits.j0] at h, fun _ _ _ r h => by simp [galoisref01_Digits.l0] at h, fun _ _ _ _ r h => by simp [galoisref01_Digits.j2] at h, fun _ _ _ _ _ r h => by simp [galoisref01_Digits.l1] at h⟩
 | k + 1 => by
  obtain ⟨ih0, ih1, ih2, ih3⟩ := galoisref01_Digits.mono_l k
  refine ⟨?_, ?_, ?_, ?_⟩
  ·intro y0 y1
   unfold galoisref01_Digits.j0
   exact galoisref01_Digits.U1
  ·intro y0 y1 y2
   unfold galoisref01_Digits.l0
   exact galoisref01_Digits.U1
  ·intro y0 y1 y2 y3
   unfold galoisref01_Digits.j2
   exact galoisref01_Digits.U1
  ·intro y0 y1 y2 y3 y4
   unfold galoisref01_Digits.l1
   exact galoisref01_Digits.U1
theorem galoisref01_Digits.mono : ∀ a0 k, LeO (galoisref01_Digits.f k a0) (galoisref01_Digits.f (k + 1) a0) := by
 intro a0 k
 obtain ⟨ih0, ih1, ih2, ih3⟩ := galoisref01_Digits.mono_l k
 unfold galoisref01_Digits.f
 exact galoisref01_Digits.U1
theorem galoisref01_Digits.M1 {g : Prop} (h : g := by
 have H' := Aside0.mk H
 clear H
 go_wp2
 go_meet
 case rel => exact ⟨_, _, ZS, H', ⟨ZN⟩, ⟨ZB⟩⟩) : g := h
theorem galoisref01_Digits.M2 {g : Prop} (h : g := by
 go_wp2
 go_meet
 case rel => exact ⟨_, _, ZS, H', ⟨by have := HJ1.out; have := HK2.out; first | omega | exact Nat.le_refl _⟩, ⟨by (with_reducible repeat (first | apply Kd.R_alloc | apply Kd.R_drewN | apply Kd.R_drew)); exact HO_4.out⟩, ⟨ZB⟩⟩) : g := h
set_option maxHeartbeats 8000000 in
set_option maxRecDepth 100000 in
theorem galoisref01_Digits.calls (k : Nat) (a0 : ByteArray) (r1 : ByteArray) (r2 : Bool) (w : World) (h : galoisref01_Digits.f k a0 = some (r1, r2)) :
  Calls Try.prog 67 #[.string a0] w fun e w' => e = .returned (.tuple #[.string r1, .bool r2]) ∧ Below w.heap.size w w' := by
 have HB := Aside0.mk (Below.refl w.heap.size w)
 have H := h
 unfold galoisref01_Digits.f at H
 clear h
 have HC2 := Aside0.mk H
 clear H
 go_enter Try.func67, Try.ntmps67
 go_upto_region 1 with (fail)
 go_cut [19] (fun v19 wc => ∃ (kq : Nat) (x19_1 : Bool), v19 = .bool x19_1 ∧ Aside0 (galoisref01_Digits.j0 kq a0 x19_1 = some (r1, r2)) ∧ Aside0 (kq ≤ k) ∧ Aside0 (Below w.heap.size w wc))
 case first =>
  have H := HC2.out
  clear HC2
  by_cases c3 : a0.toList = ([] : List UInt8)
  ·rw [if_pos c3] at H
   have c3b0 : (a0.toList == ([] : List UInt8)) = true := beq_iff_eq.mpr c3
   have c3b1 : (a0.toList != ([] : List UInt8)) = false := bne_eq_false_iff_eq.mpr c3
   clear c3
   (first | rw [c3b0] | rw [c3b1] | (simp only [i64_w, i32_w]; rw [c3b0]) | skip)
   exact galoisref01_Digits.M1
  ·rw [if_neg c3] at H
   have c3b0 : (a0.toList == ([] : List UInt8)) = false := beq_eq_false_iff_ne.mpr c3
   have c3b1 : (a0.toList != ([] : List UInt8)) = true := bne_iff_ne.mpr c3
   (first | rw [c3b0] | rw [c3b1] | (simp only [i64_w, i32_w]; rw [c3b0]) | skip)
   by_cases c4 : (a0.size : Int) > 1
   ·rw [if_pos c4] at H
    have c4b0 : decide (1 < (a0.size : Int)) = true := decide_eq_true c4
    have c4b1 : decide (1 < a0.size) = true := decide_eq_true (by omega)
    clear c4
    obtain ⟨c5, H⟩ := ZI H
    have c5b0 : decide (0 < (a0.size : Int)) = true := decide_eq_true c5
    have c5b1 : decide (0 < a0.size) = true := decide_eq_true (by omega)
    clear c5
    have H' := Aside0.mk H
    clear H
    have p6 : 0 ≤ (0 : Int) := (by omega)
    have q6 : 0 < a0.size := (by have : (0 : Int) < (a0.size : Int) := of_decide_eq_true ZD; omega)
    have hx6 : ∀ h : 0 < a0.size, ((a0[0]'h).toNat : Int) = bt a0 0 := bt_at a0 0
    clear p6
    have qi6 : (0 < (a0.size : Int)) = True := eq_true (of_decide_eq_true ZD)
    replace q6 := eq_true q6
    go_wp2
    go_meet
    case rel => exact ⟨_, (((bt a0 0) == 48)), ZS, H', ⟨ZN⟩, ⟨ZB⟩⟩
   ·rw [if_neg c4] at H
    have c4b0 : decide (1 < (a0.size : Int)) = false := decide_eq_false c4
    have c4b1 : decide (1 < a0.size) = false := decide_eq_false (by omega)
    clear c4
    exact galoisref01_Digits.M1
 case rest =>
  clear HC2
  obtain ⟨kq, x19_1, rfl, HA, HJ1, HB⟩ := hcut
  cases kq with
  | zero => exact absurd HA.out (by simp [galoisref01_Digits.j0])
  | succ kj1 =>
   have H := HA.out
   clear HA
   simp only [galoisref01_Digits.j0] at H
   by_cases c7 : x19_1 = true
   ·subst c7
    rw [if_pos rfl] at H
    simp only [Option.some.injEq, Prod.mk.injEq] at H
    obtain ⟨rfl, rfl⟩ := H
    go_wp2
    go_ret2
    exact ⟨ZE, ZB⟩
   ·replace c7 := Bool.eq_false_iff.mpr c7
    subst c7
    rw [if_neg Bool.false_ne_true] at H
    have H' := Aside0.mk H
    clear H
    go_wp2
    go_loopg [4, 5] kj1 (fun kq v4 v5 w' => ∃ (x4_2 : List Int) (x5_2 : Int), v5 = .int .i64 x5_2 ∧ Aside0 (galoisref01_Digits.l0 kq a0 x4_2 x5_2 = some (r1, r2)) ∧ Aside0 (kq ≤ kj1) ∧ Aside0 (Kd.R (Kd.int .u64) 49 w' w.heap.size (fun _ => True) v4 x4_2) ∧ Aside0 (Below w.heap.size w w'))
    case atStart => exact ⟨(([] : List Int)), (0), ZS, H', ⟨Nat.le_refl _⟩, ⟨by first | exact Kd.R_nil _ _ _ _ _ | exact Kd.N_nil _ _ _ _ _ | exact Kd.V_nil _ _ _ _ _ | exact Kd.Q_nil _ _ _ _ _ | exact Kd.S_nil _ _ _ _ _⟩, ⟨ZB⟩⟩
    case round =>
     clear H'
     try clear c7
     obtain ⟨x4_2, x5_2, rfl, HA, HK2, HO_4, HB⟩ := hrel
     cases gk with
     | zero => exact absurd HA.out (by simp [galoisref01_Digits.l0])
     | succ k2 =>
      have H := HA.out
      clear HA
      simp only [galoisref01_Digits.l0] at H
      by_cases c8 : x5_2 < (a0.size : Int)
      ·rw [if_pos c8] at H
       have c8b0 : decide (x5_2 < (a0.size : Int)) = true := decide_eq_true c8
       clear c8
       have HC9 := Aside0.mk H
       clear H
       go_upto_region 7 with (fail)
       go_cut [35] (fun v35 wc => ∃ (kq : Nat) (x35_8 : Bool), v35 = .bool x35_8 ∧ Aside0 (galoisref01_Digits.j2 kq a0 x4_2 x5_2 x35_8 = some (r1, r2)) ∧ Aside0 (kq ≤ k2) ∧ Aside0 (Kd.R (Kd.int .u64) 49 wc w.heap.size (fun _ => True) u4 x4_2) ∧ Aside0 (Below w.heap.size w wc))
       case first =>
        have H := HC9.out
        clear HC9
        obtain ⟨c10, H⟩ := ZI H
        have c10b0 : decide (0 ≤ x5_2) = true := decide_eq_true c10
        clear c10
        (first | rw [c10b0] | rw [c10b1] | (simp only [i64_w, i32_w]; rw [c10b0]) | skip)
        by_cases c12 : (bt a0 x5_2) < 48
        ·rw [if_pos c12] at H
         have c12b0 : decide ((bt a0 x5_2) < 48) = true := decide_eq_true c12
         clear c12
         have H' := Aside0.mk H
         clear H
         have p11 : 0 ≤ (x5_2 : Int) := of_decide_eq_true ZD
         have q11 : x5_2 < (a0.size : Int) := of_decide_eq_true ZD
         have hx11 := bt_at a0 x5_2
         replace p11 := eq_true p11
         replace q11 := eq_true q11
         exact galoisref01_Digits.M2
        ·rw [if_neg c12] at H
         have c12b0 : decide ((bt a0 x5_2) < 48) = false := decide_eq_false c12
         clear c12
         have H' := Aside0.mk H
         clear H
         have p11 : 0 ≤ (x5_2 : Int) := of_decide_eq_true ZD
         have q11 : x5_2 < (a0.size : Int) := of_decide_eq_true ZD
         have hx11 := bt_at a0 x5_2
         replace p11 := eq_true p11
         replace q11 := eq_true q11
         have p13 : 0 ≤ (x5_2 : Int) := of_decide_eq_true ZD
         have q13 : x5_2 < (a0.size : Int) := of_decide_eq_true ZD
         have hx13 := bt_at a0 x5_2
         replace p13 := eq_true p13
         replace q13 := eq_true q13
         exact galoisref01_Digits.M2
       case rest =>
        clear HC9
        try clear c8
        try clear c8b0
        obtain ⟨kq, x35_8, rfl, HA, HJ8, HO_4, HB⟩ := hcut
        cases kq with
        | zero => exact absurd HA.out (by simp [galoisref01_Digits.j2])
        | succ kj8 =>
         have H := HA.out
         clear HA
         simp only [galoisref01_Digits.j2] at H
         by_cases c14 : x35_8 = true
         ·subst c14
          rw [if_pos rfl] at H
          simp only [Option.some.injEq, Prod.mk.injEq] at H
          obtain ⟨rfl, rfl⟩ := H
          go_wp2
          go_ret2
          exact ⟨ZE, ZB⟩
         ·replace c14 := Bool.eq_false_iff.mpr c14
          subst c14
          rw [if_neg Bool.false_ne_true] at H
          obtain ⟨c15, H⟩ := ZI H
          have c15b0 : decide (0 ≤ x5_2) = true := decide_eq_true c15
          clear c15
          obtain ⟨c16, H⟩ := ZI H
          have c16b0 : decide (x5_2 < (a0.size : Int)) = true := decide_eq_true c16
          clear c16
          have H' := Aside0.mk H
          clear H
          have p17 : 0 ≤ (x5_2 : Int) := of_decide_eq_true ZD
          have q17 : x5_2 < (a0.size : Int) := of_decide_eq_true ZD
          have hx17 := bt_at a0 x5_2
          replace p17 := eq_true p17
          replace q17 := eq_true q17
          go_wp2
          go_loopg [6, 7] kj8 (fun kq v6 v7 w' => ∃ (x4_4 : List Int) (x6_4 : Int) (x7_4 : Int), v6 = .int .u64 x6_4 ∧ v7 = .int .i64 x7_4 ∧ Aside0 (galoisref01_Digits.l1 kq a0 x4_4 x5_2 x6_4 x7_4 = some (r1, r2)) ∧ Aside0 (kq ≤ kj8) ∧ Aside0 (Kd.R (Kd.int .u64) 49 w' w.heap.size (fun _ => True) u4 x4_4) ∧ Aside0 (Below w.heap.size w w'))
          case atStart => exact ⟨(x4_2), (((bt a0 x5_2) - 48) % 256), (0), ZS, ZS, H', ⟨Nat.le_refl _⟩, ⟨by (with_reducible repeat (first | apply Kd.R_alloc | apply Kd.R_drewN | apply Kd.R_drew)); exact HO_4.out⟩, ⟨ZB⟩⟩
          case round =>
           clear H'
           try clear c14
           try clear c15
           try clear c15b0
           try clear c16
           try clear c16b0
           try clear p17
           try clear q17
           try clear hx17
           obtain ⟨x4_4, x6_4, x7_4, rfl, rfl, HA, HK4, HO_4, HB⟩ := hrel
           cases gk with
           | zero => exact absurd HA.out (by simp [galoisref01_Digits.l1])
           | succ k4 =>
            have H := HA.out
            clear HA
            simp only [galoisref01_Digits.l1] at H
            by_cases c18 : x7_4 < (x4_4.length : Int)
            ·rw [if_pos c18] at H
             have c18b0 : decide (x7_4 < (x4_4.length : Int)) = true := decide_eq_true c18
             clear c18
             obtain ⟨c19, H⟩ := ZI H
             have c19b0 : decide (0 ≤ x7_4) = true := decide_eq_true c19
             clear c19
             obtain ⟨y814, hy814⟩ : ∃ y_ : List Int, y_ = (x4_4.set (x7_4 : Int).toNat (Go.bits .and .u64 (IntKind.u64.wrap (x6_4 + (IntKind.u64.wrap ((rd x4_4 x7_4) * 10)))) 4294967295)) := ⟨_, rfl⟩
             replace H : (galoisref01_Digits.l1 k4 a0 y814 x5_2 ((IntKind.u64.wrap (x6_4 + (IntKind.u64.wrap ((rd x4_4 x7_4) * 10)))) / 4294967296) (wrap64 (x7_4 + 1))) = some (r1, r2) := ZH hy814 H
             have Ny814 := Aside0.mk hy814
             clear hy814
             have H' := Aside0.mk H
             clear H
             obtain ⟨Ao21, co21, eo21⟩ := Kd.R_slice HO_4.out
             subst eo21
             have p813 : 0 ≤ (x7_4 : Int) := of_decide_eq_true ZD
             have q813 : x7_4 < (x4_4.length : Int) := of_decide_eq_true ZD
             obtain ⟨ad813, e813, hx813_0⟩ := Kd.at_int (Kd.R_reads' HO_4.out).2.2 x7_4 p813 q813
             cases e813
             replace p813 := eq_true p813
             replace q813 := eq_true q813
             have p20 : 0 ≤ (x7_4 : Int) := of_decide_eq_true ZD
             have q20 : (x7_4 : Int) < ((x4_4.length : Int) : Int) := of_decide_eq_true ZD
             obtain ⟨go20, co20, eo20, gb20, gl20, cl20, HG20⟩ := Kd.R_form HO_4.out (by omega)
             (first | cases eo20 | (injection eo20 with ea_ en_ ec_; (first | subst ea_ | (injection ea_ with ea_; subst ea_)); subst ec_; clear en_))
             have GB20 := Aside0.mk gb20
             have GG20 := Aside0.mk HG20
             clear gb20 gl20 HG20
             (first | simp only [add_plain] at hx813_0 | skip)
             obtain ⟨hx20_0, hf20_0⟩ := Kd.R_celln 0 HO_4.out (x7_4 : Int) p20 q20; (try simp only [Int.toNat_natCast] at hx20_0 hf20_0)
             replace p20 := eq_true p20
             replace q20 := eq_true q20
             have HP22 := Kd.R_putg HO_4.out (x7_4 : Int) (Go.bits .and .u64 (IntKind.u64.wrap (x6_4 + (IntKind.u64.wrap ((rd x4_4 x7_4) * 10)))) 4294967295)
             go_wp2_with (first | ((with_reducible refine gate_store (t := 49) (p := 58) rfl ?_); refine store_event (t := 49) (p := 58) (v := ?vo_w23) (w1 := (wr.setCell ⟨go20, (x7_4 : Int).toNat, none⟩ (.int .u64 (Go.bits .and .u64 (IntKind.u64.wrap (x6_4 + (IntKind.u64.wrap ((rd x4_4 x7_4) * 10)))) 4294967295)))) ?hg ?ho ?hn ?hr ?_; (case ho => rfl); (case hg => rfl); (case hn => rfl); (case hr => first | (go_simp; done) | (go_simp; rfl)); intro w23 hw; have hg : wr.grownBy w23 (some go20) := (by rw [hw]; exact HP22.2); have hp_ : Kd.R (Kd.int .u64) 49 w23 w.heap.size (fun _ => True) (.slice (some ⟨go20, 0, none⟩) x4_4.length co21) y814 := (by rw [hw, Ny814.out]; exact HP22.1); clear HP22; replace HO_4 := Aside0.mk (hp_); replace HB := Aside0.mk ((by rw [hw]; exact below_set (HB.out) GB20.out : Below w.heap.size w w23)); clear hg hw hp_))
             go_roundg k4
             case measure => have := HJ1.out; have := HK2.out; have := HJ8.out; have := HK4.out; omega
             case rel => exact ⟨(y814), ((IntKind.u64.wrap (x6_4 + (IntKind.u64.wrap ((rd x4_4 x7_4) * 10)))) / 4294967296), (wrap64 (x7_4 + 1)), ZS, ZS, H', ⟨by have := HJ1.out; have := HK2.out; have := HJ8.out; have := HK4.out; omega⟩, ⟨by (with_reducible repeat (first | apply Kd.R_alloc | apply Kd.R_drewN | apply Kd.R_drew)); exact HO_4.out⟩, ⟨ZB⟩⟩
            ·rw [if_neg c18] at H
             have c18b0 : decide (x7_4 < (x4_4.length : Int)) = false := decide_eq_false c18
             clear c18
             by_cases c24 : x6_4 > 0
             ·rw [if_pos c24] at H
              have c24b0 : decide (0 < x6_4) = true := decide_eq_true c24
              clear c24
              obtain ⟨c25, H⟩ := ZI H
              have LMc25 := Aside0.mk c25
              clear c25
              obtain ⟨y815, hy815⟩ : ∃ y_ : List Int, y_ = (x4_4 ++ [x6_4]) := ⟨_, rfl⟩
              replace H : (galoisref01_Digits.l0 k4 a0 y815 (wrap64 (x5_2 + 1))) = some (r1, r2) := ZH hy815 H
              have Ny815 := Aside0.mk hy815
              clear hy815
              have H' := Aside0.mk H
              clear H
              obtain ⟨Ao26, co26, eo26⟩ := Kd.R_slice HO_4.out
              subst eo26
              go_wp2_with (first | ((with_reducible refine gate_builtin (b := .append) (xs := #[.tmp 63, .tmp 65]) rfl ?_); (try (refine gate_guard (by rfl) ?_; dsimp only)); at_builtin; refine Kd.R_append (Kd.int .u64) (w0 := w) w.heap.size rfl (.tmp 63) (.tmp 65) 68 49 (.int .u64 0) 8 rfl Try.underlying68 info49 rfl (by decide) (by omega) (.slice Ao26 x4_4.length co26) x4_4 x6_4 [.int .u64 x6_4] (fun _ => True) (fun _ => False) rfl rfl ?aP (fun _ hk => hk.elim) ?aF ?aO ?aB ?aS ?aL ?_; (case aP => exact rfl); (case aB => exact ZB); (case aF => exact (fun _ _ => trivial)); (case aO => exact (ZR HO_4.out)); (case aS => exact (below_size ZB)); (case aL => have := LMc25.out; omega); intro v816 w27 ho hb hg hat; rw [← Ny815.out] at ho; replace HB := Aside0.mk (hb); have HO817 := Aside0.mk (ho); clear HO_4; clear ho hb hg hat))
              go_roundg k4
              case measure => have := HJ1.out; have := HK2.out; have := HJ8.out; have := HK4.out; omega
              case rel => exact ⟨(y815), (wrap64 (x5_2 + 1)), ZS, H', ⟨by have := HJ1.out; have := HK2.out; have := HJ8.out; have := HK4.out; omega⟩, ⟨by (with_reducible repeat (first | apply Kd.R_alloc | apply Kd.R_drewN | apply Kd.R_drew)); exact HO817.out⟩, ⟨ZB⟩⟩
             ·rw [if_neg c24] at H
              have c24b0 : decide (0 < x6_4) = false := decide_eq_false c24
              clear c24
              have H' := Aside0.mk H
              clear H
              obtain ⟨Ao28, co28, eo28⟩ := Kd.R_slice HO_4.out
              subst eo28
              go_wp2
              go_roundg k4
              case measure => have := HJ1.out; have := HK2.out; have := HJ8.out; have := HK4.out; omega
              case rel => exact ⟨(x4_4), (wrap64 (x5_2 + 1)), ZS, H', ⟨by have := HJ1.out; have := HK2.out; have := HJ8.out; have := HK4.out; omega⟩, ⟨by (with_reducible repeat (first | apply Kd.R_alloc | apply Kd.R_drewN | apply Kd.R_drew)); exact HO_4.out⟩, ⟨ZB⟩⟩
      ·rw [if_neg c8] at H
       have c8b0 : decide (x5_2 < (a0.size : Int)) = false := decide_eq_false c8
       clear c8
       obtain ⟨t812, A29, H⟩ := ZO H
       simp only [Option.some.injEq, Prod.mk.injEq] at H
       obtain ⟨rfl, rfl⟩ := H
       obtain ⟨Ao30, co30, eo30⟩ := Kd.R_slice HO_4.out
       subst eo30
       go_wp2_with (first | ((with_reducible refine gate_callee (f := 53) rfl ?_); refine goesL_ (some 68) rfl rfl Try.func53 (by kernel_rfl) rfl #[.slice Ao30 x4_2.length co30] rfl ZA ?_; (with_reducible refine (galoisref01_pack.calls k2 _ _ x4_2 t812 _ ?side1 ?side2 A29.out).mono ?_); (case side1 => exact ZC (Kd.R_reads' HO_4.out).2.2); (case side2 => exact (Kd.R_reads' HO_4.out).2.1); rintro e w31 ⟨rfl, hb⟩; refine ⟨_, rfl, ?_⟩; replace HO_4 := Aside0.mk (Kd.R_below (ZR HO_4.out) hb); replace HB := Aside0.mk (below_step ZB hb); (try clear hb)))
       go_ret2
       exact ⟨ZE, ZB⟩
def galoisref01_Parse.f (k : Nat) (a0 : ByteArray) : Option (ByteArray × Int) := if (a0.size : Int) > 4096 then (some ((⟨#[]⟩ : ByteArray), 12)) else ((galoisref01_Digits.f k a0).bind fun bt818 => (if bt818.2 = true then ((galoisref01_Fits.f bt818.1).bind fun t820 => (if t820 = 0 then (some (bt818.1, 0)) else (some ((⟨#[]⟩ : ByteArray), 4)))) else (some ((⟨#[]⟩ : ByteArray), 11))))
theorem galoisref01_Parse.mono : ∀ a0 k, LeO (galoisref01_Parse.f k a0) (galoisref01_Parse.f (k + 1) a0) := by
 intro a0 k
 unfold galoisref01_Parse.f
 repeat' first
   | (with_reducible exact galoisref01_Digits.mono _ _)
   | (with_reducible exact LeO.refl _)
   | (with_reducible exact LeO.none _)
   | (with_reducible refine LeO.ite ?_ ?_)
   | (with_reducible refine LeO.bind ?_ (fun _ => ?_))
theorem galoisref01_Parse.M1 {g : Prop} (h : g := by
 go_enter Try.func45, Try.ntmps45
 go_wp2_with (first | ((with_reducible refine gate_callee (f := 67) rfl ?_); refine goesL_ (some 11) rfl rfl Try.func67 (by kernel_rfl) rfl #[.string a0] rfl ZA ?_; (with_reducible refine (galoisref01_Digits.calls k a0 t818 _ _ A3.out).mono ?_); rintro e w9001 ⟨rfl, hb⟩; refine ⟨_, rfl, ?_⟩; replace HB := Aside0.mk (below_step ZB hb); (try clear hb)) | ((with_reducible refine gate_callee (f := 50) rfl ?_); refine goesL_ (some 17) rfl rfl Try.func50 (by kernel_rfl) rfl #[.string t818] rfl ZA ?_; (with_reducible refine (galoisref01_Fits.calls t818 t820 _ A5.out).mono ?_); rintro e w' ⟨rfl, ⟨nd, rfl⟩⟩; refine ⟨_, rfl, ?_⟩))
 go_ret2
 exact ⟨ZE, ZB⟩) : g := h
set_option maxHeartbeats 8000000 in
set_option maxRecDepth 100000 in
theorem galoisref01_Parse.calls (k : Nat) (a0 : ByteArray) (r1 : ByteArray) (r2 : Int) (w : World) (h : galoisref01_Parse.f k a0 = some (r1, r2)) :
  Calls Try.prog 45 #[.string a0] w fun e w' => e = .returned (.tuple #[.string r1, .int .i64 r2]) ∧ Below w.heap.size w w' := by
 have HB := Aside0.mk (Below.refl w.heap.size w)
 have H := h
 unfold galoisref01_Parse.f at H
 clear h
 by_cases c2 : (a0.size : Int) > 4096
 ·rw [if_pos c2] at H
  have c2b0 : decide (4096 < (a0.size : Int)) = true := decide_eq_true c2
  have c2b1 : decide (4096 < a0.size) = true := decide_eq_true (by omega)
  clear c2
  simp only [Option.some.injEq, Prod.mk.injEq] at H
  obtain ⟨rfl, rfl⟩ := H
  exact galoisref01_Parse.M1
 ·rw [if_neg c2] at H
  have c2b0 : decide (4096 < (a0.size : Int)) = false := decide_eq_false c2
  have c2b1 : decide (4096 < a0.size) = false := decide_eq_false (by omega)
  clear c2
  obtain ⟨⟨t818, t819⟩, A3, H⟩ := ZO H
  (try dsimp only at H)
  by_cases c4 : t819 = true
  ·subst c4
   rw [if_pos rfl] at H
   obtain ⟨t820, A5, H⟩ := ZO H
   by_cases c6 : t820 = 0
   ·rw [if_pos c6] at H
    have c6b0 : (t820 == 0) = true := beq_iff_eq.mpr c6
    have c6b1 : (t820 != 0) = false := bne_eq_false_iff_eq.mpr c6
    clear c6
    simp only [Option.some.injEq, Prod.mk.injEq] at H
    obtain ⟨rfl, rfl⟩ := H
    exact galoisref01_Parse.M1
   ·rw [if_neg c6] at H
    have c6b0 : (t820 == 0) = false := beq_eq_false_iff_ne.mpr c6
    have c6b1 : (t820 != 0) = true := bne_iff_ne.mpr c6
    simp only [Option.some.injEq, Prod.mk.injEq] at H
    obtain ⟨rfl, rfl⟩ := H
    exact galoisref01_Parse.M1
  ·replace c4 := Bool.eq_false_iff.mpr c4
   subst c4
   rw [if_neg Bool.false_ne_true] at H
   simp only [Option.some.injEq, Prod.mk.injEq] at H
   obtain ⟨rfl, rfl⟩ := H
   go_enter Try.func45, Try.ntmps45
   go_wp2_with (first | ((with_reducible refine gate_callee (f := 67) rfl ?_); refine goesL_ (some 11) rfl rfl Try.func67 (by kernel_rfl) rfl #[.string a0] rfl ZA ?_; (with_reducible refine (galoisref01_Digits.calls k a0 t818 false _ A3.out).mono ?_); rintro e w9 ⟨rfl, hb⟩; refine ⟨_, rfl, ?_⟩; replace HB := Aside0.mk (below_step ZB hb); (try clear hb)))
   go_ret2
   exact ⟨ZE, ZB⟩
end Go.Proofs.Ytohkmnbnjacfaaa.All
namespace Go.Proofs.Ytohkmnbnjacfaaa.All
open Go.Proofs.YtohkmnbnjacfaaaX
open Go.RowKit Go.Proofs.YtohkmnbnjacfaaaW.PrintWords Go.Proofs.YtohkmnbnjacfaaaW.PrintLast Go.Proofs.YtohkmnbnjacfaaaW.PrintMore
attribute [local go_sem] max2_int min2_int max_two min_two max_three min_three max_four min_four
set_option linter.unusedVariables false
set_option linter.unusedSimpArgs false
mutual
def galoisref01_Format.l0 : Nat → List Int → List Int → Option (ByteArray)
 | 0, _, _ => none
 | k + 1, x3, x4 => if (x4.length : Int) > 0 then (galoisref01_Format.l1 k x3 x4 0 (wrap64 ((x4.length : Int) - 1))) else (if 0 ≤ (x3.length : Int) then (if ((x3.length : Int) : Int).toNat ≤ 281474976710656 then (galoisref01_Format.l2 k x3 (List.replicate ((x3.length : Int) : Int).toNat 0) 0) else (none)) else (none))
def galoisref01_Format.l1 : Nat → List Int → List Int → Int → Int → Option (ByteArray)
 | 0, _, _, _, _ => none
 | k + 1, x3, x4, x5, x6 => if x6 ≥ 0 then (if 0 ≤ x6 then (if x6 < (x4.length : Int) then (galoisref01_Format.l1 k x3 (x4.set (x6 : Int).toNat (IntKind.u64.wrap (Int.tdiv (IntKind.u64.wrap ((IntKind.u64.wrap (x5 * 4294967296)) + (rd x4 x6))) 10))) (Int.tmod (IntKind.u64.wrap ((IntKind.u64.wrap (x5 * 4294967296)) + (rd x4 x6))) 10) (wrap64 (x6 - 1))) else (none)) else (none)) else (if x3.length < 140737488355328 then ((galoisref01_trim.f k x4).bind fun t829 => (galoisref01_Format.l0 k (x3 ++ [(IntKind.u64.wrap (48 + x5)) % 256]) t829)) else (none))
def galoisref01_Format.l2 : Nat → List Int → List Int → Int → Option (ByteArray)
 | 0, _, _, _ => none
 | k + 1, x3, x7, x8 => if x8 < (x3.length : Int) then (if 0 ≤ x8 then (if 0 ≤ (wrap64 ((wrap64 ((x3.length : Int) - 1)) - x8)) then (if (wrap64 ((wrap64 ((x3.length : Int) - 1)) - x8)) < (x7.length : Int) then (galoisref01_Format.l2 k x3 (x7.set ((wrap64 ((wrap64 ((x3.length : Int) - 1)) - x8)) : Int).toNat (rd x3 x8)) (wrap64 (x8 + 1))) else (none)) else (none)) else (none)) else (some (strOfNums x7))
end
def galoisref01_Format.f (k : Nat) (a0 : ByteArray) : Option (ByteArray) := if a0.toList = ([] : List UInt8) then (some (⟨#[48]⟩ : ByteArray)) else ((galoisref01_limbs.f k a0).bind fun t821 => (galoisref01_Format.l0 k ([] : List Int) t821))
theorem galoisref01_Format.U1 {g : Prop} (h : g := by
 repeat' first
 | (with_reducible exact ih0 _ _)
 | (with_reducible exact ih1 _ _ _ _)
 | (with_reducible exact ih2 _ _ _)
 | (with_reducible exact galoisref01_limbs.mono _ _)
 | (with_reducible exact galoisref01_trim.mono _ _)
 | (with_reducible exact LeO.refl _)
 | (with_reducible exact LeO.none _)
 | (with_reducible refine LeO.ite ?_ ?_)
 | (with_reducible refine LeO.bind ?_ (fun _ => ?_))) : g := h
theorem galoisref01_Format.mono_l : ∀ k, (∀ y0 y1, LeO (galoisref01_Format.l0 k y0 y1) (galoisref01_Format.l0 (k + 1) y0 y1)) ∧ (∀ y0 y1 y2 y3, LeO (galoisref01_Format.l1 k y0 y1 y2 y3) (galoisref01_Format.l1 (k + 1) y0 y1 y2 y3)) ∧ (∀ y0 y1 y2, LeO (galoisref01_Format.l2 k y0 y1 y2) (galoisref01_Format.l2 (k + 1) y0 y1 y2))
 | 0 => ⟨fun _ _ r h => by simp [galoisref01_Format.l0] at h, fun _ _ _ _ r h => by simp [galoisref01_Format.l1] at h, fun _ _ _ r h => by simp [galoisref01_Format.l2] at h⟩
 | k + 1 => by
  obtain ⟨ih0, ih1, ih2⟩ := galoisref01_Format.mono_l k
  refine ⟨?_, ?_, ?_⟩
  ·intro y0 y1
   unfold galoisref01_Format.l0
   exact galoisref01_Format.U1
  ·intro y0 y1 y2 y3
   unfold galoisref01_Format.l1
   exact galoisref01_Format.U1
  ·intro y0 y1 y2
   unfold galoisref01_Format.l2
   exact galoisref01_Format.U1
theorem galoisref01_Format.mono : ∀ a0 k, LeO (galoisref01_Format.f k a0) (galoisref01_Format.f (k + 1) a0) := by
 intro a0 k
 obtain ⟨ih0, ih1, ih2⟩ := galoisref01_Format.mono_l k
 unfold galoisref01_Format.f
 exact galoisref01_Format.U1
set_option maxHeartbeats 8000000 in
set_option maxRecDepth 100000 in
theorem galoisref01_Format.calls (k : Nat) (a0 : ByteArray) (r : ByteArray) (w : World) (h : galoisref01_Format.f k a0 = some r) :
  Calls Try.prog 46 #[.string a0] w fun e w' => e = .returned (.string r) ∧ Below w.heap.size w w' := by
 have HB := Aside0.mk (Below.refl w.heap.size w)
 have H := h
 unfold galoisref01_Format.f at H
 clear h
 by_cases c2 : a0.toList = ([] : List UInt8)
 ·rw [if_pos c2] at H
  have c2b0 : (a0.toList == ([] : List UInt8)) = true := beq_iff_eq.mpr c2
  have c2b1 : (a0.toList != ([] : List UInt8)) = false := bne_eq_false_iff_eq.mpr c2
  clear c2
  obtain rfl := Option.some.inj H
  go_enter Try.func46, Try.ntmps46
  go_wp2
  go_ret
  exact ⟨ZE, ZB⟩
 ·rw [if_neg c2] at H
  have c2b0 : (a0.toList == ([] : List UInt8)) = false := beq_eq_false_iff_ne.mpr c2
  have c2b1 : (a0.toList != ([] : List UInt8)) = true := bne_iff_ne.mpr c2
  obtain ⟨t821, A3, H⟩ := ZO H
  have H' := Aside0.mk H
  clear H
  go_enter Try.func46, Try.ntmps46
  go_wp2_with (first | ((with_reducible refine gate_callee (f := 51) rfl ?_); refine goesL_ (some 12) rfl rfl Try.func51 (by kernel_rfl) rfl #[.string a0] rfl ZA ?_; (with_reducible refine (galoisref01_limbs.calls k a0 t821 _ A3.out).mono ?_); rintro e w4 ⟨v822, rfl, ho0, hb⟩; refine ⟨_, rfl, ?_⟩; have HO823 := Aside0.mk (Kd.R_lower ho0 (below_size ZB)); replace HB := Aside0.mk (below_step ZB hb); (try clear hb); (try clear ho0)))
  go_loopg [3, 4] k (fun kq v3 v4 w' => ∃ (x3_1 : List Int) (x4_1 : List Int), Aside0 (galoisref01_Format.l0 kq x3_1 x4_1 = some r) ∧ Aside0 (kq ≤ k) ∧ Aside0 (Kd.R (Kd.int .u8) 5 w' w.heap.size (fun _ => True) v3 x3_1) ∧ Aside0 (Kd.R (Kd.int .u64) 49 w' w.heap.size (fun _ => True) v4 x4_1) ∧ Aside0 (Below w.heap.size w w'))
  case atStart => exact ⟨(([] : List Int)), (t821), H', ⟨Nat.le_refl _⟩, ⟨by first | exact Kd.R_nil _ _ _ _ _ | exact Kd.N_nil _ _ _ _ _ | exact Kd.V_nil _ _ _ _ _ | exact Kd.Q_nil _ _ _ _ _ | exact Kd.S_nil _ _ _ _ _⟩, ⟨by (with_reducible repeat (first | apply Kd.R_alloc | apply Kd.R_drewN | apply Kd.R_drew)); exact HO823.out⟩, ⟨ZB⟩⟩
  case round =>
   clear H'
   try clear c2
   try clear c2b0
   try clear c2b1
   obtain ⟨x3_1, x4_1, HA, HK1, HO_3, HO_4, HB⟩ := hrel
   cases gk with
   | zero => exact absurd HA.out (by simp [galoisref01_Format.l0])
   | succ k1 =>
    have H := HA.out
    clear HA
    simp only [galoisref01_Format.l0] at H
    by_cases c5 : (x4_1.length : Int) > 0
    ·rw [if_pos c5] at H
     have c5b0 : decide (0 < (x4_1.length : Int)) = true := decide_eq_true c5
     have c5b1 : decide (0 < x4_1.length) = true := decide_eq_true (by omega)
     clear c5
     have H' := Aside0.mk H
     clear H
     obtain ⟨Ao6, co6, eo6⟩ := Kd.R_slice HO_4.out
     subst eo6
     go_wp2
     go_loopg [5, 6] k1 (fun kq v5 v6 w' => ∃ (x4_2 : List Int) (x5_2 : Int) (x6_2 : Int), v5 = .int .u64 x5_2 ∧ v6 = .int .i64 x6_2 ∧ Aside0 (galoisref01_Format.l1 kq x3_1 x4_2 x5_2 x6_2 = some r) ∧ Aside0 (kq ≤ k1) ∧ Aside0 (Kd.R (Kd.int .u8) 5 w' w.heap.size (fun _ => True) u3 x3_1) ∧ Aside0 (Kd.R (Kd.int .u64) 49 w' w.heap.size (fun _ => True) (.slice Ao6 x4_1.length co6) x4_2) ∧ Aside0 (Below w.heap.size w w'))
     case atStart => exact ⟨(x4_1), (0), (wrap64 ((x4_1.length : Int) - 1)), ZS, ZS, H', ⟨Nat.le_refl _⟩, ⟨by (with_reducible repeat (first | apply Kd.R_alloc | apply Kd.R_drewN | apply Kd.R_drew)); exact HO_3.out⟩, ⟨by (with_reducible repeat (first | apply Kd.R_alloc | apply Kd.R_drewN | apply Kd.R_drew)); exact HO_4.out⟩, ⟨ZB⟩⟩
     case round =>
      clear H'
      try clear c5
      try clear c5b0
      try clear c5b1
      obtain ⟨x4_2, x5_2, x6_2, rfl, rfl, HA, HK2, HO_3, HO_4, HB⟩ := hrel
      have hl4_2 := (Kd.R_reads' HO_4.out).1
      rw [hl4_2] at HO_4
      (try simp only [hl4_2])
      (try simp only [hl4_2] at HO_3)
      cases gk with
      | zero => exact absurd HA.out (by simp [galoisref01_Format.l1])
      | succ k2 =>
       have H := HA.out
       clear HA
       simp only [galoisref01_Format.l1] at H
       by_cases c7 : x6_2 ≥ 0
       ·rw [if_pos c7] at H
        have c7b0 : decide (0 ≤ x6_2) = true := decide_eq_true c7
        clear c7
        obtain ⟨c8, H⟩ := ZI H
        have c8b0 : decide (0 ≤ x6_2) = true := decide_eq_true c8
        clear c8
        obtain ⟨c9, H⟩ := ZI H
        have c9b0 : decide (x6_2 < (x4_2.length : Int)) = true := decide_eq_true c9
        (try (have c9b0y := c9b0; simp only [hl4_2] at c9b0y))
        clear c9
        obtain ⟨y825, hy825⟩ : ∃ y_ : List Int, y_ = (x4_2.set (x6_2 : Int).toNat (IntKind.u64.wrap (Int.tdiv (IntKind.u64.wrap ((IntKind.u64.wrap (x5_2 * 4294967296)) + (rd x4_2 x6_2))) 10))) := ⟨_, rfl⟩
        replace H : (galoisref01_Format.l1 k2 x3_1 y825 (Int.tmod (IntKind.u64.wrap ((IntKind.u64.wrap (x5_2 * 4294967296)) + (rd x4_2 x6_2))) 10) (wrap64 (x6_2 - 1))) = some r := ZH hy825 H
        have Ny825 := Aside0.mk hy825
        clear hy825
        have H' := Aside0.mk H
        clear H
        have p824 : 0 ≤ (x6_2 : Int) := of_decide_eq_true ZD
        have q824 : x6_2 < (x4_2.length : Int) := of_decide_eq_true ZD
        obtain ⟨ad824, e824, hx824_0⟩ := Kd.at_int (Kd.R_reads' HO_4.out).2.2 x6_2 p824 q824
        cases e824
        replace p824 := eq_true p824
        replace q824 := eq_true q824
        have p10 : 0 ≤ (x6_2 : Int) := of_decide_eq_true ZD
        have q10 : (x6_2 : Int) < ((x4_2.length : Int) : Int) := of_decide_eq_true ZD
        obtain ⟨go10, co10, eo10, gb10, gl10, cl10, HG10⟩ := Kd.R_form HO_4.out (by omega)
        (first | cases eo10 | (injection eo10 with ea_ en_ ec_; (first | subst ea_ | (injection ea_ with ea_; subst ea_)); subst ec_; clear en_))
        have GB10 := Aside0.mk gb10
        have GG10 := Aside0.mk HG10
        clear gb10 gl10 HG10
        (first | simp only [add_plain] at hx824_0 | skip)
        obtain ⟨hx10_0, hf10_0⟩ := Kd.R_celln 0 HO_4.out (x6_2 : Int) p10 q10; (try simp only [Int.toNat_natCast] at hx10_0 hf10_0)
        replace p10 := eq_true p10
        replace q10 := eq_true q10
        have HP11 := Kd.R_putg HO_4.out (x6_2 : Int) (IntKind.u64.wrap (Int.tdiv (IntKind.u64.wrap ((IntKind.u64.wrap (x5_2 * 4294967296)) + (rd x4_2 x6_2))) 10))
        go_wp2_with (first | ((with_reducible refine gate_store (t := 49) (p := 34) rfl ?_); refine store_event (t := 49) (p := 34) (v := ?vo_w12) (w1 := (wr.setCell ⟨go10, (x6_2 : Int).toNat, none⟩ (.int .u64 (IntKind.u64.wrap (Int.tdiv (IntKind.u64.wrap ((IntKind.u64.wrap (x5_2 * 4294967296)) + (rd x4_2 x6_2))) 10))))) ?hg ?ho ?hn ?hr ?_; (case ho => rfl); (case hg => rfl); (case hn => rfl); (case hr => first | (go_simp; done) | (go_simp; rfl)); intro w12 hw; have hg : wr.grownBy w12 (some go10) := (by rw [hw]; exact HP11.2); have hp_ : Kd.R (Kd.int .u64) 49 w12 w.heap.size (fun _ => True) (.slice (some ⟨go10, 0, none⟩) x4_2.length co6) y825 := (by rw [hw, Ny825.out]; exact HP11.1); clear HP11; replace HO_3 := Aside0.mk (Kd.R_over' (v := (.slice (some ⟨go10, 0, none⟩) x4_2.length co6)) (ZR HO_3.out) (Kd.R_typed HO_4.out) (by decide) hg); replace HO_4 := Aside0.mk (hp_); replace HB := Aside0.mk ((by rw [hw]; exact below_set (HB.out) GB10.out : Below w.heap.size w w12)); clear hg hw hp_))
        (try simp only [← hl4_2])
        go_roundg k2
        case measure => have := HK1.out; have := HK2.out; omega
        case rel => exact ⟨(y825), (Int.tmod (IntKind.u64.wrap ((IntKind.u64.wrap (x5_2 * 4294967296)) + (rd x4_2 x6_2))) 10), (wrap64 (x6_2 - 1)), ZS, ZS, H', ⟨by have := HK1.out; have := HK2.out; omega⟩, ⟨by (try simp only [hl4_2]); (with_reducible repeat (first | apply Kd.R_alloc | apply Kd.R_drewN | apply Kd.R_drew)); exact HO_3.out⟩, ⟨by (try simp only [hl4_2]); (with_reducible repeat (first | apply Kd.R_alloc | apply Kd.R_drewN | apply Kd.R_drew)); exact HO_4.out⟩, ⟨ZB⟩⟩
       ·rw [if_neg c7] at H
        have c7b0 : decide (0 ≤ x6_2) = false := decide_eq_false c7
        clear c7
        obtain ⟨c13, H⟩ := ZI H
        have LMc13 := Aside0.mk c13
        clear c13
        obtain ⟨y826, hy826⟩ : ∃ y_ : List Int, y_ = (x3_1 ++ [(IntKind.u64.wrap (48 + x5_2)) % 256]) := ⟨_, rfl⟩
        replace H : ((galoisref01_trim.f k2 x4_2).bind fun t829 => (galoisref01_Format.l0 k2 y826 t829)) = some r := ZH hy826 H
        have Ny826 := Aside0.mk hy826
        clear hy826
        obtain ⟨t829, A14, H⟩ := ZO H
        have H' := Aside0.mk H
        clear H
        go_wp2_with (first | ((with_reducible refine gate_builtin (b := .append) (xs := #[.tmp 37, .tmp 41]) rfl ?_); at_builtin; refine Kd.R_append (Kd.int .u8) (w0 := w) w.heap.size rfl (.tmp 37) (.tmp 41) 75 5 (.int .u8 0) 1 rfl Try.underlying75 info5 rfl (by decide) (by omega) u3 x3_1 ((IntKind.u64.wrap (48 + x5_2)) % 256) [.int .u8 ((IntKind.u64.wrap (48 + x5_2)) % 256)] (fun _ => True) (fun _ => False) rfl rfl ?aP (fun _ hk => hk.elim) ?aF ?aO ?aB ?aS ?aL ?_; (case aP => exact rfl); (case aB => exact ZB); (case aF => exact (fun _ _ => trivial)); (case aO => exact (ZR HO_3.out)); (case aS => exact (below_size ZB)); (case aL => have := LMc13.out; omega); intro v827 w15 ho hb hg hat; rw [← Ny826.out] at ho; replace HO_4 := Aside0.mk (Kd.R_over' (ZR HO_4.out) (Kd.R_typed (ZR HO_3.out)) (by decide) hg); replace HB := Aside0.mk (hb); have HO828 := Aside0.mk (ho); clear HO_3; clear ho hb hg hat) | ((with_reducible refine gate_callee (f := 68) rfl ?_); refine goesL_ (some 44) rfl rfl Try.func68 (by kernel_rfl) rfl #[.slice Ao6 x4_2.length co6] rfl ZA ?_; (with_reducible refine (galoisref01_trim.calls k2 (fun k_ => some k_ = (.slice Ao6 x4_2.length co6 : Value).ownBlock) (.slice Ao6 x4_2.length co6) x4_2 t829 w _ ?side1 ?side2 A14.out).mono ?_); (case side1 => repeat (first | (with_reducible first | exact HB.out | apply below_alloc | apply pw_below_drewN | apply below_drew1) | exact HB.out)); (case side2 => exact Kd.R_tight rfl HO_4.out); rintro e w16 ⟨v830, rfl, ho0, hb, hkp⟩; refine ⟨_, rfl, ?_⟩; replace HO828 := Aside0.mk (Kd.R_mono (ok' := fun k_ => True) (Kd.R_keptB ((Kd.R_apart' HO828.out (Kd.R_typed HO_4.out) (by decide))) hkp (fun k_ hk_ hs_ => (hk_.2) hs_)) (fun k_ hk_ => trivial)); have HO831 := Aside0.mk (Kd.R_mono (ok' := fun k_ => True) ho0 (fun k_ hk_ => trivial)); replace HB := Aside0.mk (hb); clear HO_4; (try clear hb); (try clear hkp); (try clear ho0)))
        (try simp only [← hl4_2])
        go_roundg k2
        case measure => have := HK1.out; have := HK2.out; omega
        case rel => exact ⟨(y826), (t829), H', ⟨by have := HK1.out; have := HK2.out; omega⟩, ⟨by (try simp only [hl4_2]); (with_reducible repeat (first | apply Kd.R_alloc | apply Kd.R_drewN | apply Kd.R_drew)); exact HO828.out⟩, ⟨by (try simp only [hl4_2]); (with_reducible repeat (first | apply Kd.R_alloc | apply Kd.R_drewN | apply Kd.R_drew)); exact HO831.out⟩, ⟨ZB⟩⟩
    ·rw [if_neg c5] at H
     have c5b0 : decide (0 < (x4_1.length : Int)) = false := decide_eq_false c5
     have c5b1 : decide (0 < x4_1.length) = false := decide_eq_false (by omega)
     clear c5
     by_cases c17 : 0 ≤ (x3_1.length : Int)
     ·rw [if_pos c17] at H
      have c17b0 := eq_true c17
      have c17b1 : decide (0 ≤ (x3_1.length : Int)) = true := decide_eq_true c17
      clear c17
      obtain ⟨c18, H⟩ := ZI H
      have c18b0 := eq_true c18
      have c18b1 : decide (((x3_1.length : Int) : Int).toNat ≤ 281474976710656) = true := decide_eq_true c18
      clear c18
      obtain ⟨y832, hy832⟩ : ∃ y_ : List Int, y_ = (List.replicate ((x3_1.length : Int) : Int).toNat 0) := ⟨_, rfl⟩
      replace H : (galoisref01_Format.l2 k1 x3_1 y832 0) = some r := ZH hy832 H
      have Ny832 := Aside0.mk hy832
      clear hy832
      have H' := Aside0.mk H
      clear H
      obtain ⟨Ao19, co19, eo19⟩ := Kd.R_slice HO_4.out
      subst eo19
      obtain ⟨Ao20, co20, eo20⟩ := Kd.R_slice HO_3.out
      subst eo20
      go_wp2_with (first | ((with_reducible refine gate_dst (N := 47) rfl ?_); refine Kd.R_make (Kd.int .u8) _ 5 rfl (N := 47) rfl 75 _ _ rfl (x3_1.length : Int) rfl rfl Try.underlying75 (.int .u8 0) 1 info5 rfl (by decide) (by omega) 0 (ok := fun _ => True) (okp := fun _ => True) rfl (fun _ hk => hk) trivial (of_decide_eq_true ZD) (Nat.le_trans (Nat.mul_le_mul_right _ (of_decide_eq_true ZD : (x3_1.length : Int).toNat ≤ 281474976710656)) (by omega)) (Below.refl _ _) (Nat.le_refl _) ?_; intro v833 w21 ho22 hb hg_ hnew_; clear hg_ hnew_; (first | rw [← Ny832.out] at ho22 | (simp only [Int.reduceToNat] at ho22; rw [← Ny832.out] at ho22)); replace HO_4 := Aside0.mk (Kd.R_below (ZR HO_4.out) hb); have HO834 := Aside0.mk (Kd.R_lower (Kd.R_new' ho22 (Kd.R_lt (ZR HO_3.out))) (below_size ZB)); replace HO_3 := Aside0.mk (Kd.R_elder' (ZR HO_3.out) (Kd.R_base ho22) hb); replace HB := Aside0.mk (below_step ZB hb); clear hb ho22))
      go_loopg [8] k1 (fun kq v8 w' => ∃ (x7_2 : List Int) (x8_2 : Int), v8 = .int .i64 x8_2 ∧ Aside0 (galoisref01_Format.l2 kq x3_1 x7_2 x8_2 = some r) ∧ Aside0 (kq ≤ k1) ∧ Aside0 (Kd.R (Kd.int .u8) 5 w' w.heap.size (fun k_ => some k_ ≠ (v833 : Value).ownBlock) (.slice Ao20 x3_1.length co20) x3_1) ∧ Aside0 (Kd.R (Kd.int .u8) 5 w' w.heap.size (fun k_ => some k_ ≠ ((.slice Ao20 x3_1.length co20) : Value).ownBlock) v833 x7_2) ∧ Aside0 (Below w.heap.size w w'))
      case atStart => exact ⟨(y832), (0), ZS, H', ⟨Nat.le_refl _⟩, ⟨by (with_reducible repeat (first | apply Kd.R_alloc | apply Kd.R_drewN | apply Kd.R_drew)); exact Kd.R_mono HO_3.out (fun _ hk => hk.2)⟩, ⟨by (with_reducible repeat (first | apply Kd.R_alloc | apply Kd.R_drewN | apply Kd.R_drew)); exact Kd.R_mono HO834.out (fun _ hk => hk.2)⟩, ⟨ZB⟩⟩
      case round =>
       clear H'
       try clear c5
       try clear c5b0
       try clear c5b1
       try clear c17
       try clear c17b0
       try clear c17b1
       try clear c18
       try clear c18b0
       try clear c18b1
       obtain ⟨x7_2, x8_2, rfl, HA, HK2, HO_3, HO_7, HB⟩ := hrel
       cases gk with
       | zero => exact absurd HA.out (by simp [galoisref01_Format.l2])
       | succ k2 =>
        have H := HA.out
        clear HA
        simp only [galoisref01_Format.l2] at H
        by_cases c23 : x8_2 < (x3_1.length : Int)
        ·rw [if_pos c23] at H
         have c23b0 : decide (x8_2 < (x3_1.length : Int)) = true := decide_eq_true c23
         clear c23
         obtain ⟨c24, H⟩ := ZI H
         have c24b0 : decide (0 ≤ x8_2) = true := decide_eq_true c24
         clear c24
         obtain ⟨ji25, hji25⟩ : ∃ j_ : Int, (wrap64 ((wrap64 ((x3_1.length : Int) - 1)) - x8_2)) = j_ := ⟨_, rfl⟩
         (first | rw [hji25] at H | simp only [hji25] at H)
         have hji25w : (IntKind.i64.wrap ((wrap64 ((x3_1.length : Int) - 1)) - x8_2)) = ji25 := (i64_w _).trans hji25
         obtain ⟨c26, H⟩ := ZI H
         have c26b0 : decide (0 ≤ (ji25)) = true := decide_eq_true c26
         clear c26
         obtain ⟨c27, H⟩ := ZI H
         have c27b0 : decide ((ji25) < (x7_2.length : Int)) = true := decide_eq_true c27
         clear c27
         obtain ⟨y836, hy836⟩ : ∃ y_ : List Int, y_ = (x7_2.set ((ji25) : Int).toNat (rd x3_1 x8_2)) := ⟨_, rfl⟩
         replace H : (galoisref01_Format.l2 k2 x3_1 y836 (wrap64 (x8_2 + 1))) = some r := ZH hy836 H
         have Ny836 := Aside0.mk hy836
         clear hy836
         have H' := Aside0.mk H
         clear H
         have p835 : 0 ≤ (x8_2 : Int) := of_decide_eq_true ZD
         have q835 : x8_2 < (x3_1.length : Int) := of_decide_eq_true ZD
         obtain ⟨ad835, e835, hx835_0⟩ := Kd.at_int (Kd.R_reads' HO_3.out).2.2 x8_2 p835 q835
         cases e835
         replace p835 := eq_true p835
         replace q835 := eq_true q835
         have p28 : 0 ≤ ((ji25) : Int) := of_decide_eq_true ZD
         have q28 : ((ji25) : Int) < ((x7_2.length : Int) : Int) := of_decide_eq_true ZD
         obtain ⟨go28, co28, eo28, gb28, gl28, cl28, HG28⟩ := Kd.R_form HO_7.out (by omega)
         (first | cases eo28 | (injection eo28 with ea_ en_ ec_; (first | subst ea_ | (injection ea_ with ea_; subst ea_)); subst ec_; clear en_))
         have GB28 := Aside0.mk gb28
         have GG28 := Aside0.mk HG28
         clear gb28 gl28 HG28
         obtain ⟨hx28_0, hf28_0⟩ := Kd.R_celln 0 HO_7.out ((ji25) : Int) p28 q28; (try simp only [Int.toNat_natCast] at hx28_0 hf28_0)
         replace p28 := eq_true p28
         replace q28 := eq_true q28
         have HP29 := Kd.R_putg HO_7.out ((ji25) : Int) (rd x3_1 x8_2)
         go_wp2_with (first | ((with_reducible refine gate_store (t := 5) (p := 64) rfl ?_); refine store_event (t := 5) (p := 64) (v := ?vo_w30) (w1 := (wr.setCell ⟨go28, ((ji25) : Int).toNat, none⟩ (.int .u8 (rd x3_1 x8_2)))) ?hg ?ho ?hn ?hr ?_; (case ho => rfl); (case hg => rfl); (case hn => rfl); (case hr => first | (go_simp; done) | (go_simp; rfl)); intro w30 hw; have hg : wr.grownBy w30 (some go28) := (by rw [hw]; exact HP29.2); have hp_ : Kd.R (Kd.int .u8) 5 w30 w.heap.size (fun k_ => some k_ ≠ (.slice (some ad835) x3_1.length co20 : Value).ownBlock) (.slice (some ⟨go28, 0, none⟩) x7_2.length co28) y836 := (by rw [hw, Ny836.out]; exact HP29.1); clear HP29; replace HO_3 := Aside0.mk (Kd.R_after (v := (.slice (some ⟨go28, 0, none⟩) x7_2.length co28)) (v1 := (.slice (some ⟨go28, 0, none⟩) x7_2.length co28)) (ok := (fun _ => True)) (by (with_reducible repeat (first | apply Kd.R_alloc | apply Kd.R_drewN | apply Kd.R_drew)); exact Kd.R_mono HO_3.out (fun _ hk => ⟨trivial, hk⟩)) hg (.inl rfl)); replace HO_7 := Aside0.mk (hp_); replace HB := Aside0.mk ((by rw [hw]; exact below_set (HB.out) GB28.out : Below w.heap.size w w30)); clear hg hw hp_))
         go_roundg k2
         case measure => have := HK1.out; have := HK2.out; omega
         case rel => exact ⟨(y836), (wrap64 (x8_2 + 1)), ZS, H', ⟨by have := HK1.out; have := HK2.out; omega⟩, ⟨by (with_reducible repeat (first | apply Kd.R_alloc | apply Kd.R_drewN | apply Kd.R_drew)); exact Kd.R_mono HO_3.out (fun _ hk => hk.2)⟩, ⟨by (with_reducible repeat (first | apply Kd.R_alloc | apply Kd.R_drewN | apply Kd.R_drew)); exact HO_7.out⟩, ⟨ZB⟩⟩
        ·rw [if_neg c23] at H
         have c23b0 : decide (x8_2 < (x3_1.length : Int)) = false := decide_eq_false c23
         clear c23
         obtain rfl := Option.some.inj H
         have hcv31 := own_string (P := Try.prog) Try.underlying75 Try.underlying5 Try.underlying9 (Kd.own_of_R HO_7.out)
         go_wp2
         go_ret
         exact ⟨ZE, ZB⟩
     ·rw [if_neg c17] at H
      exact absurd H (by simp)
def galoislaw01_NaturalTexts.j0 : Nat → ByteArray → ByteArray → Bool → Option (Bool)
 | 0, _, _, _ => none
 | k + 1, x0, x1, x25 => if x25 = true then ((galoislaw01_awake.f k).bind fun t838 => (some t838)) else ((natural_Format.f k x0).bind fun bt839 => ((natural_Parse.f k x1).bind fun bt841 => ((galoisref01_Parse.f k x1).bind fun bt843 => ((galoislaw01_right.f bt841.1 bt841.2 bt843.2 bt843.1).bind fun t845 => (if t845 = true then ((galoisref01_Check.f x0).bind fun t846 => (if t846 = 0 then ((natural_Parse.f k bt839.1).bind fun bt847 => ((galoisref01_Format.f k x0).bind fun t849 => (if bt839.1.toList = t849.toList then (if bt839.2 = 0 then (if bt847.1.toList = x0.toList then (some (bt847.2 == 0)) else (some false)) else (some false)) else (some false)))) else (if bt839.1.toList = ([] : List UInt8) then (some (bt839.2 == t846)) else (some false)))) else (some false))))))
def galoislaw01_NaturalTexts.f (k : Nat) (a0 : ByteArray) (a1 : ByteArray) : Option (Bool) := (galoislaw01_awake.f k).bind fun t837 => (if t837 = true then (if (a0.size : Int) > 1100 then (galoislaw01_NaturalTexts.j0 k a0 a1 true) else (galoislaw01_NaturalTexts.j0 k a0 a1 (decide ((a1.size : Int) > 4200)))) else (galoislaw01_NaturalTexts.j0 k a0 a1 true))
theorem galoislaw01_NaturalTexts.U1 {g : Prop} (h : g := by
 repeat' first
 | (with_reducible exact ih0 _ _ _)
 | (with_reducible exact galoislaw01_awake.mono _)
 | (with_reducible exact galoisref01_Format.mono _ _)
 | (with_reducible exact galoisref01_Parse.mono _ _)
 | (with_reducible exact natural_Format.mono _ _)
 | (with_reducible exact natural_Parse.mono _ _)
 | (with_reducible exact LeO.refl _)
 | (with_reducible exact LeO.none _)
 | (with_reducible refine LeO.ite ?_ ?_)
 | (with_reducible refine LeO.bind ?_ (fun _ => ?_))) : g := h
theorem galoislaw01_NaturalTexts.mono_l : ∀ k, (∀ y0 y1 y2, LeO (galoislaw01_NaturalTexts.j0 k y0 y1 y2) (galoislaw01_NaturalTexts.j0 (k + 1) y0 y1 y2))
 | 0 => fun _ _ _ r h => by simp [galoislaw01_NaturalTexts.j0] at h
 | k + 1 => by
  have ih0 := galoislaw01_NaturalTexts.mono_l k
  ·intro y0 y1 y2
   unfold galoislaw01_NaturalTexts.j0
   exact galoislaw01_NaturalTexts.U1
theorem galoislaw01_NaturalTexts.mono : ∀ a0 a1 k, LeO (galoislaw01_NaturalTexts.f k a0 a1) (galoislaw01_NaturalTexts.f (k + 1) a0 a1) := by
 intro a0 a1 k
 have ih0 := galoislaw01_NaturalTexts.mono_l k
 unfold galoislaw01_NaturalTexts.f
 exact galoislaw01_NaturalTexts.U1
theorem galoislaw01_NaturalTexts.M1 {g : Prop} (h : g := by
 have H' := Aside0.mk H
 clear H
 go_wp2_with (first | ((with_reducible refine gate_callee (f := 12) rfl ?_); refine goesL_ (some 14) rfl rfl Try.func12 (by kernel_rfl) rfl #[] rfl ZA ?_; (with_reducible refine (galoislaw01_awake.calls k  _ _ A4.out).mono ?_); rintro e w9001 ⟨rfl, hb⟩; refine ⟨_, rfl, ?_⟩; replace HB := Aside0.mk (below_step ZB hb); (try clear hb)))
 go_meet
 case rel => exact ⟨_, _, ZS, H', ⟨ZN⟩, ⟨ZB⟩⟩) : g := h
theorem galoislaw01_NaturalTexts.M2 {g : Prop} (h : g := by
 go_wp2_with (first | ((with_reducible refine gate_callee (f := 12) rfl ?_); refine goesL_ (some 26) rfl rfl Try.func12 (by kernel_rfl) rfl #[] rfl ZA ?_; (with_reducible refine (galoislaw01_awake.calls kj2  t838 _ A11.out).mono ?_); rintro e w9001 ⟨rfl, hb⟩; refine ⟨_, rfl, ?_⟩; replace HB := Aside0.mk (below_step ZB hb); (try clear hb)) | ((with_reducible refine gate_callee (f := 43) rfl ?_); refine goesL_ (some 29) rfl rfl Try.func43 (by kernel_rfl) rfl #[.string a0] rfl ZA ?_; (with_reducible refine (natural_Format.calls kj2 a0 t839 t840 _ A13.out).mono ?_); rintro e w9002 ⟨rfl, hb⟩; refine ⟨_, rfl, ?_⟩; replace HB := Aside0.mk (below_step ZB hb); (try clear hb)) | ((with_reducible refine gate_callee (f := 44) rfl ?_); refine goesL_ (some 34) rfl rfl Try.func44 (by kernel_rfl) rfl #[.string a1] rfl ZA ?_; (with_reducible refine (natural_Parse.calls kj2 a1 t841 t842 _ A14.out).mono ?_); rintro e w9003 ⟨rfl, hb⟩; refine ⟨_, rfl, ?_⟩; replace HB := Aside0.mk (below_step ZB hb); (try clear hb)) | ((with_reducible refine gate_callee (f := 45) rfl ?_); refine goesL_ (some 39) rfl rfl Try.func45 (by kernel_rfl) rfl #[.string a1] rfl ZA ?_; (with_reducible refine (galoisref01_Parse.calls kj2 a1 t843 t844 _ A15.out).mono ?_); rintro e w9004 ⟨rfl, hb⟩; refine ⟨_, rfl, ?_⟩; replace HB := Aside0.mk (below_step ZB hb); (try clear hb)) | ((with_reducible refine gate_callee (f := 17) rfl ?_); refine goesL_ (some 46) rfl rfl Try.func17 (by kernel_rfl) rfl #[.string t841, .int .i64 t842, .int .i64 t844, .string t843] rfl ZA ?_; (with_reducible refine (galoislaw01_right.calls t841 t842 t844 t843 _ _ A16.out).mono ?_); rintro e w' ⟨rfl, ⟨nd, rfl⟩⟩; refine ⟨_, rfl, ?_⟩) | ((with_reducible refine gate_callee (f := 24) rfl ?_); refine goesL_ (some 49) rfl rfl Try.func24 (by kernel_rfl) rfl #[.string a0] rfl ZA ?_; (with_reducible refine (galoisref01_Check.calls a0 t846 _ A18.out).mono ?_); rintro e w' ⟨rfl, ⟨nd, rfl⟩⟩; refine ⟨_, rfl, ?_⟩) | ((with_reducible refine gate_callee (f := 44) rfl ?_); refine goesL_ (some 61) rfl rfl Try.func44 (by kernel_rfl) rfl #[.string t839] rfl ZA ?_; (with_reducible refine (natural_Parse.calls kj2 t839 t847 t848 _ A20.out).mono ?_); rintro e w9005 ⟨rfl, hb⟩; refine ⟨_, rfl, ?_⟩; replace HB := Aside0.mk (below_step ZB hb); (try clear hb)) | ((with_reducible refine gate_callee (f := 46) rfl ?_); refine goesL_ (some 66) rfl rfl Try.func46 (by kernel_rfl) rfl #[.string a0] rfl ZA ?_; (with_reducible refine (galoisref01_Format.calls kj2 a0 t849 _ A21.out).mono ?_); rintro e w9006 ⟨rfl, hb⟩; refine ⟨_, rfl, ?_⟩; replace HB := Aside0.mk (below_step ZB hb); (try clear hb)))
 go_ret
 exact ⟨ZE, ZB⟩) : g := h
set_option maxHeartbeats 8000000 in
set_option maxRecDepth 100000 in
theorem galoislaw01_NaturalTexts.calls (k : Nat) (a0 : ByteArray) (a1 : ByteArray) (r : Bool) (w : World) (h : galoislaw01_NaturalTexts.f k a0 a1 = some r) :
  Calls Try.prog 11 #[.string a0, .string a1] w fun e w' => e = .returned (.bool r) ∧ Below w.heap.size w w' := by
 have HB := Aside0.mk (Below.refl w.heap.size w)
 have H := h
 unfold galoislaw01_NaturalTexts.f at H
 clear h
 have HC3 := Aside0.mk H
 clear H
 go_enter Try.func11, Try.ntmps11
 go_upto_region 1 with (fail)
 go_cut [25] (fun v25 wc => ∃ (kq : Nat) (x25_2 : Bool), v25 = .bool x25_2 ∧ Aside0 (galoislaw01_NaturalTexts.j0 kq a0 a1 x25_2 = some r) ∧ Aside0 (kq ≤ k) ∧ Aside0 (Below w.heap.size w wc))
 case first =>
  have H := HC3.out
  clear HC3
  obtain ⟨t837, A4, H⟩ := ZO H
  by_cases c5 : t837 = true
  ·subst c5
   rw [if_pos rfl] at H
   by_cases c6 : (a0.size : Int) > 1100
   ·rw [if_pos c6] at H
    have c6b0 : decide (1100 < (a0.size : Int)) = true := decide_eq_true c6
    have c6b1 : decide (1100 < a0.size) = true := decide_eq_true (by omega)
    clear c6
    (first | rw [c6b0] | rw [c6b1] | (simp only [i64_w, i32_w]; rw [c6b0]) | skip)
    exact galoislaw01_NaturalTexts.M1
   ·rw [if_neg c6] at H
    have c6b0 : decide (1100 < (a0.size : Int)) = false := decide_eq_false c6
    have c6b1 : decide (1100 < a0.size) = false := decide_eq_false (by omega)
    clear c6
    (first | rw [c6b0] | rw [c6b1] | (simp only [i64_w, i32_w]; rw [c6b0]) | skip)
    exact galoislaw01_NaturalTexts.M1
  ·replace c5 := Bool.eq_false_iff.mpr c5
   subst c5
   rw [if_neg Bool.false_ne_true] at H
   exact galoislaw01_NaturalTexts.M1
 case rest =>
  clear HC3
  obtain ⟨kq, x25_2, rfl, HA, HJ2, HB⟩ := hcut
  cases kq with
  | zero => exact absurd HA.out (by simp [galoislaw01_NaturalTexts.j0])
  | succ kj2 =>
   have H := HA.out
   clear HA
   simp only [galoislaw01_NaturalTexts.j0] at H
   by_cases c10 : x25_2 = true
   ·subst c10
    rw [if_pos rfl] at H
    obtain ⟨t838, A11, H⟩ := ZO H
    obtain rfl := Option.some.inj H
    exact galoislaw01_NaturalTexts.M2
   ·replace c10 := Bool.eq_false_iff.mpr c10
    subst c10
    rw [if_neg Bool.false_ne_true] at H
    obtain ⟨⟨t839, t840⟩, A13, H⟩ := ZO H
    (try dsimp only at H)
    obtain ⟨⟨t841, t842⟩, A14, H⟩ := ZO H
    (try dsimp only at H)
    obtain ⟨⟨t843, t844⟩, A15, H⟩ := ZO H
    (try dsimp only at H)
    obtain ⟨t845, A16, H⟩ := ZO H
    by_cases c17 : t845 = true
    ·subst c17
     rw [if_pos rfl] at H
     obtain ⟨t846, A18, H⟩ := ZO H
     by_cases c19 : t846 = 0
     ·rw [if_pos c19] at H
      have c19b0 : (t846 == 0) = true := beq_iff_eq.mpr c19
      have c19b1 : (t846 != 0) = false := bne_eq_false_iff_eq.mpr c19
      clear c19
      obtain ⟨⟨t847, t848⟩, A20, H⟩ := ZO H
      (try dsimp only at H)
      obtain ⟨t849, A21, H⟩ := ZO H
      by_cases c22 : t839.toList = t849.toList
      ·rw [if_pos c22] at H
       have c22b0 : (t839.toList == t849.toList) = true := beq_iff_eq.mpr c22
       have c22b1 : (t839.toList != t849.toList) = false := bne_eq_false_iff_eq.mpr c22
       clear c22
       by_cases c23 : t840 = 0
       ·rw [if_pos c23] at H
        have c23b0 : (t840 == 0) = true := beq_iff_eq.mpr c23
        have c23b1 : (t840 != 0) = false := bne_eq_false_iff_eq.mpr c23
        clear c23
        by_cases c24 : t847.toList = a0.toList
        ·rw [if_pos c24] at H
         have c24b0 : (t847.toList == a0.toList) = true := beq_iff_eq.mpr c24
         have c24b1 : (t847.toList != a0.toList) = false := bne_eq_false_iff_eq.mpr c24
         clear c24
         obtain rfl := Option.some.inj H
         exact galoislaw01_NaturalTexts.M2
        ·rw [if_neg c24] at H
         have c24b0 : (t847.toList == a0.toList) = false := beq_eq_false_iff_ne.mpr c24
         have c24b1 : (t847.toList != a0.toList) = true := bne_iff_ne.mpr c24
         obtain rfl := Option.some.inj H
         exact galoislaw01_NaturalTexts.M2
       ·rw [if_neg c23] at H
        have c23b0 : (t840 == 0) = false := beq_eq_false_iff_ne.mpr c23
        have c23b1 : (t840 != 0) = true := bne_iff_ne.mpr c23
        obtain rfl := Option.some.inj H
        exact galoislaw01_NaturalTexts.M2
      ·rw [if_neg c22] at H
       have c22b0 : (t839.toList == t849.toList) = false := beq_eq_false_iff_ne.mpr c22
       have c22b1 : (t839.toList != t849.toList) = true := bne_iff_ne.mpr c22
       obtain rfl := Option.some.inj H
       exact galoislaw01_NaturalTexts.M2
     ·rw [if_neg c19] at H
      have c19b0 : (t846 == 0) = false := beq_eq_false_iff_ne.mpr c19
      have c19b1 : (t846 != 0) = true := bne_iff_ne.mpr c19
      by_cases c45 : t839.toList = ([] : List UInt8)
      ·rw [if_pos c45] at H
       have c45b0 : (t839.toList == ([] : List UInt8)) = true := beq_iff_eq.mpr c45
       have c45b1 : (t839.toList != ([] : List UInt8)) = false := bne_eq_false_iff_eq.mpr c45
       clear c45
       obtain rfl := Option.some.inj H
       exact galoislaw01_NaturalTexts.M2
      ·rw [if_neg c45] at H
       have c45b0 : (t839.toList == ([] : List UInt8)) = false := beq_eq_false_iff_ne.mpr c45
       have c45b1 : (t839.toList != ([] : List UInt8)) = true := bne_iff_ne.mpr c45
       obtain rfl := Option.some.inj H
       exact galoislaw01_NaturalTexts.M2
    ·replace c17 := Bool.eq_false_iff.mpr c17
     subst c17
     rw [if_neg Bool.false_ne_true] at H
     obtain rfl := Option.some.inj H
     go_wp2_with (first | ((with_reducible refine gate_callee (f := 43) rfl ?_); refine goesL_ (some 29) rfl rfl Try.func43 (by kernel_rfl) rfl #[.string a0] rfl ZA ?_; (with_reducible refine (natural_Format.calls kj2 a0 t839 t840 _ A13.out).mono ?_); rintro e w52 ⟨rfl, hb⟩; refine ⟨_, rfl, ?_⟩; replace HB := Aside0.mk (below_step ZB hb); (try clear hb)) | ((with_reducible refine gate_callee (f := 44) rfl ?_); refine goesL_ (some 34) rfl rfl Try.func44 (by kernel_rfl) rfl #[.string a1] rfl ZA ?_; (with_reducible refine (natural_Parse.calls kj2 a1 t841 t842 _ A14.out).mono ?_); rintro e w53 ⟨rfl, hb⟩; refine ⟨_, rfl, ?_⟩; replace HB := Aside0.mk (below_step ZB hb); (try clear hb)) | ((with_reducible refine gate_callee (f := 45) rfl ?_); refine goesL_ (some 39) rfl rfl Try.func45 (by kernel_rfl) rfl #[.string a1] rfl ZA ?_; (with_reducible refine (galoisref01_Parse.calls kj2 a1 t843 t844 _ A15.out).mono ?_); rintro e w54 ⟨rfl, hb⟩; refine ⟨_, rfl, ?_⟩; replace HB := Aside0.mk (below_step ZB hb); (try clear hb)) | ((with_reducible refine gate_callee (f := 17) rfl ?_); refine goesL_ (some 46) rfl rfl Try.func17 (by kernel_rfl) rfl #[.string t841, .int .i64 t842, .int .i64 t844, .string t843] rfl ZA ?_; (with_reducible refine (galoislaw01_right.calls t841 t842 t844 t843 false _ A16.out).mono ?_); rintro e w' ⟨rfl, ⟨nd, rfl⟩⟩; refine ⟨_, rfl, ?_⟩))
     go_ret
     exact ⟨ZE, ZB⟩
def galoislaw01_NaturalTexts.Pure : Prop := ∀ (a0 : ByteArray) (a1 : ByteArray), a0.size ≤ 140737488351232 → a1.size ≤ 140737488351232 → ∃ k, galoislaw01_NaturalTexts.f k a0 a1 = some true
theorem galoislaw01_NaturalTexts.walk (P : galoislaw01_NaturalTexts.Pure) (a0 : ByteArray) (a1 : ByteArray) (w : World) (w0 : a0.size ≤ 140737488351232) (w1 : a1.size ≤ 140737488351232) :
  Calls Try.prog 11 #[.string a0, .string a1] w fun e w' => e = .returned (.bool true) ∧ Below w.heap.size w w' := by
 obtain ⟨k, h⟩ := P a0 a1 w0 w1
 refine (galoislaw01_NaturalTexts.calls k a0 a1 true w h).mono ?_
 rintro e w' ⟨rfl, hd⟩
 exact ⟨rfl, hd⟩
end Go.Proofs.Ytohkmnbnjacfaaa.All
set_option linter.unusedVariables false
namespace Go.Proofs.YtohkmnbnjacfaaaN
open Go.Proofs.YtohkmnbnjacfaaaW.PrintWords
def vB (B : Int) : List Int → Int
  | [] => 0
  | x :: xs => x + B * vB B xs
def Dig (B : Int) (l : List Int) : Prop := ∀ x, x ∈ l → 0 ≤ x ∧ x < B
def Trim (l : List Int) : Prop := 0 < l.length → rd l (l.length - 1 : Nat) ≠ 0
theorem vB_cons (B x : Int) (xs : List Int) : vB B (x :: xs) = x + B * vB B xs := rfl
theorem Dig_nil (B : Int) : Dig B [] := fun _ h => absurd h (List.not_mem_nil)
theorem Dig_cons {B x : Int} {xs : List Int} : Dig B (x :: xs) ↔ (0 ≤ x ∧ x < B) ∧ Dig B xs := by
  constructor
  · intro h
    exact ⟨h x (List.mem_cons_self), fun y hy => h y (List.mem_cons_of_mem _ hy)⟩
  · rintro ⟨h1, h2⟩ y hy
    rcases List.mem_cons.1 hy with rfl | hy
    · exact h1
    · exact h2 y hy
theorem Dig_append {B : Int} {xs ys : List Int} (hx : Dig B xs) (hy : Dig B ys) : Dig B (xs ++ ys) := by
  intro z hz
  rcases List.mem_append.1 hz with h | h
  · exact hx z h
  · exact hy z h
theorem Dig_take {B : Int} {xs : List Int} (h : Dig B xs) (n : Nat) : Dig B (xs.take n) := fun z hz => h z (List.mem_of_mem_take hz)
theorem Dig_drop {B : Int} {xs : List Int} (h : Dig B xs) (n : Nat) : Dig B (xs.drop n) := fun z hz => h z (List.mem_of_mem_drop hz)
theorem Dig_set {B : Int} {xs : List Int} (h : Dig B xs) (n : Nat) {v : Int} (h0 : 0 ≤ v) (h1 : v < B) : Dig B (xs.set n v) := by
  intro z hz
  rcases List.mem_or_eq_of_mem_set hz with hz | rfl
  · exact h z hz
  · exact ⟨h0, h1⟩
theorem Dig_replicate {B : Int} (hB : 0 < B) (n : Nat) : Dig B (List.replicate n 0) := by
  intro z hz
  rw [List.eq_of_mem_replicate hz]
  exact ⟨Int.le_refl _, hB⟩
theorem Dig_reverse {B : Int} {xs : List Int} (h : Dig B xs) : Dig B xs.reverse := fun z hz => h z (List.mem_reverse.1 hz)
theorem rd_nat (xs : List Int) (n : Nat) : rd xs (n : Int) = xs.getD n 0 := by simp [rd]
theorem rd_get (xs : List Int) (n : Nat) (h : n < xs.length) : rd xs (n : Int) = xs[n] := by
  rw [rd_nat, List.getD_eq_getElem?_getD, List.getElem?_eq_getElem h]
  rfl
theorem Dig_rd {B : Int} {xs : List Int} (h : Dig B xs) (n : Nat) (hn : n < xs.length) : 0 ≤ rd xs (n : Int) ∧ rd xs (n : Int) < B := by
  rw [rd_get xs n hn]
  exact h _ (List.getElem_mem hn)
theorem Dig_rd0 {B : Int} (hB : 0 < B) {xs : List Int} (h : Dig B xs) (n : Nat) : 0 ≤ rd xs (n : Int) ∧ rd xs (n : Int) < B := by
  rcases Nat.lt_or_ge n xs.length with hn | hn
  · exact Dig_rd h n hn
  · rw [rd_nat, List.getD_eq_getElem?_getD, List.getElem?_eq_none hn]
    exact ⟨Int.le_refl _, hB⟩
theorem vB_append (B : Int) (xs ys : List Int) : vB B (xs ++ ys) = vB B xs + B ^ xs.length * vB B ys := by
  induction xs with
  | nil => simp [vB]
  | cons x xs ih =>
    rw [List.cons_append, vB_cons, ih, vB_cons, List.length_cons, Int.pow_succ, Int.mul_add, ← Int.add_assoc, ← Int.mul_assoc, Int.mul_comm B (B ^ xs.length)]
theorem vB_replicate (B : Int) (n : Nat) : vB B (List.replicate n 0) = 0 := by
  induction n with
  | zero => rfl
  | succ n ih => rw [List.replicate_succ, vB_cons, ih]; simp
theorem vB_nonneg {B : Int} (hB : 0 ≤ B) {l : List Int} (h : Dig B l) : 0 ≤ vB B l := by
  induction l with
  | nil => exact Int.le_refl _
  | cons x xs ih =>
    have := Dig_cons.1 h
    rw [vB_cons]
    exact Int.add_nonneg this.1.1 (Int.mul_nonneg hB (ih this.2))
theorem vB_lt {B : Int} (hB : 0 < B) {l : List Int} (h : Dig B l) : vB B l < B ^ l.length := by
  induction l with
  | nil => simp [vB]
  | cons x xs ih =>
    have hd := Dig_cons.1 h
    have h1 := ih hd.2
    rw [vB_cons, List.length_cons, Int.pow_succ, Int.mul_comm (B ^ xs.length) B]
    have h2 : B * (vB B xs + 1) ≤ B * B ^ xs.length := Int.mul_le_mul_of_nonneg_left (by omega) (by omega)
    rw [Int.mul_add, Int.mul_one] at h2
    omega
theorem vB_split (B : Int) (l : List Int) (n : Nat) (h : n ≤ l.length) : vB B l = vB B (l.take n) + B ^ n * vB B (l.drop n) := by
  conv => lhs; rw [← List.take_append_drop n l]
  rw [vB_append, List.length_take, Nat.min_eq_left h]
theorem vB_take_succ (B : Int) (l : List Int) (n : Nat) (h : n < l.length) : vB B (l.take (n + 1)) = vB B (l.take n) + B ^ n * rd l (n : Int) := by
  rw [List.take_succ_eq_append_getElem h, vB_append, List.length_take, Nat.min_eq_left (by omega), rd_get l n h]
  simp [vB]
theorem vB_set (B : Int) (l : List Int) (n : Nat) (v : Int) (h : n < l.length) : vB B (l.set n v) = vB B l + B ^ n * (v - rd l (n : Int)) := by
  induction l generalizing n with
  | nil => simp at h
  | cons x xs ih =>
    cases n with
    | zero => simp [vB, rd]; omega
    | succ n =>
      have h' : n < xs.length := by simpa using h
      rw [List.set_cons_succ, vB_cons, ih n h', vB_cons]
      have : rd (x :: xs) ((n + 1 : Nat) : Int) = rd xs (n : Int) := by rw [rd_nat, rd_nat]; simp
      rw [this, Int.pow_succ, Int.mul_add, ← Int.add_assoc, ← Int.mul_assoc, Int.mul_comm B (B ^ n)]
theorem set_eq (l : List Int) (n : Nat) (h : n < l.length) : l.set n (rd l (n : Int)) = l := by
  rw [rd_get l n h, List.set_getElem_self]
theorem rd_set_self (l : List Int) (n : Nat) (v : Int) (h : n < l.length) : rd (l.set n v) (n : Int) = v := by
  rw [rd_get _ n (by simpa using h), List.getElem_set_self]
theorem rd_set_ne (l : List Int) (n m : Nat) (v : Int) (h : n ≠ m) : rd (l.set n v) (m : Int) = rd l (m : Int) := by
  rw [rd_nat, rd_nat, List.getD_eq_getElem?_getD, List.getD_eq_getElem?_getD, List.getElem?_set_ne h]
theorem rd_append_right (xs ys : List Int) (n : Nat) : rd (xs ++ ys) ((xs.length + n : Nat) : Int) = rd ys (n : Int) := by
  rw [rd_nat, rd_nat, List.getD_eq_getElem?_getD, List.getD_eq_getElem?_getD, List.getElem?_append_right (by omega)]
  congr 2
  omega
theorem rd_take (xs : List Int) (n m : Nat) (h : m < n) : rd (xs.take n) (m : Int) = rd xs (m : Int) := by
  rw [rd_nat, rd_nat, List.getD_eq_getElem?_getD, List.getD_eq_getElem?_getD, List.getElem?_take_of_lt h]
theorem rd_drop (xs : List Int) (n m : Nat) : rd (xs.drop n) (m : Int) = rd xs ((n + m : Nat) : Int) := by
  rw [rd_nat, rd_nat, List.getD_eq_getElem?_getD, List.getD_eq_getElem?_getD, List.getElem?_drop]
theorem rd_replicate (n m : Nat) : rd (List.replicate n 0) (m : Int) = 0 := by
  rw [rd_nat, List.getD_eq_getElem?_getD, List.getElem?_replicate]
  split <;> rfl
theorem dig_inj {B : Int} (hB : 0 < B) : ∀ {l m : List Int}, Dig B l → Dig B m → l.length = m.length → vB B l = vB B m → l = m
  | [], [], _, _, _, _ => rfl
  | [], y :: ys, _, _, h, _ => by simp at h
  | x :: xs, [], _, _, h, _ => by simp at h
  | x :: xs, y :: ys, hl, hm, h, hv => by
    have h1 := Dig_cons.1 hl
    have h2 := Dig_cons.1 hm
    rw [vB_cons, vB_cons] at hv
    have hx : x = y := by
      have e1 : (x + B * vB B xs) % B = x := by rw [Int.add_mul_emod_self_left, Int.emod_eq_of_lt h1.1.1 h1.1.2]
      have e2 : (y + B * vB B ys) % B = y := by rw [Int.add_mul_emod_self_left, Int.emod_eq_of_lt h2.1.1 h2.1.2]
      rw [← e1, ← e2, hv]
    subst hx
    have hv' : B * vB B xs = B * vB B ys := by omega
    have := Int.eq_of_mul_eq_mul_left (by omega) hv'
    rw [dig_inj hB h1.2 h2.2 (by simpa using h) this]
theorem trim_le {B : Int} (hB : 0 < B) {l : List Int} (h : Dig B l) (ht : Trim l) (hp : 0 < l.length) : B ^ (l.length - 1) ≤ vB B l := by
  have e : l.take (l.length - 1 + 1) = l := List.take_of_length_le (by omega)
  have h1 := vB_take_succ B l (l.length - 1) (by omega)
  rw [e] at h1
  rw [h1]
  have h2 := vB_nonneg (Int.le_of_lt hB) (Dig_take h (l.length - 1))
  have h3 := (Dig_rd h (l.length - 1) (by omega)).1
  have h4 : 1 ≤ rd l ((l.length - 1 : Nat) : Int) := by have := ht hp; omega
  have h5 : B ^ (l.length - 1) * 1 ≤ B ^ (l.length - 1) * rd l ((l.length - 1 : Nat) : Int) := Int.mul_le_mul_of_nonneg_left h4 (Int.le_of_lt (Int.pow_pos hB))
  rw [Int.mul_one] at h5
  omega
theorem pow_le_pow {B : Int} (hB : 0 < B) {m n : Nat} (h : m ≤ n) : B ^ m ≤ B ^ n := by
  obtain ⟨j, rfl⟩ : ∃ j, n = m + j := ⟨n - m, by omega⟩
  rw [Int.pow_add]
  have h1 : 1 ≤ B ^ j := by have : 0 < B ^ j := Int.pow_pos hB; omega
  have h2 : B ^ m * 1 ≤ B ^ m * B ^ j := Int.mul_le_mul_of_nonneg_left h1 (Int.le_of_lt (Int.pow_pos hB))
  rwa [Int.mul_one] at h2
theorem trim_len {B : Int} (hB : 0 < B) {l m : List Int} (hl : Dig B l) (hm : Dig B m) (ht : Trim m) (h : l.length < m.length) : vB B l < vB B m := by
  have h1 := vB_lt hB hl
  have h2 := trim_le hB hm ht (by omega)
  have h3 := pow_le_pow hB (show l.length ≤ m.length - 1 by omega)
  omega
theorem trim_inj {B : Int} (hB : 0 < B) {l m : List Int} (hl : Dig B l) (hm : Dig B m) (tl : Trim l) (tm : Trim m) (hv : vB B l = vB B m) : l = m := by
  rcases Nat.lt_trichotomy l.length m.length with h | h | h
  · have := trim_len hB hl hm tm h; omega
  · exact dig_inj hB hl hm h hv
  · have := trim_len hB hm hl tl h; omega
def dgs (b : Nat) (n : Nat) : List Int :=
  if h : n = 0 then [] else ((n % (b + 2) : Nat) : Int) :: dgs b (n / (b + 2))
termination_by n
decreasing_by exact Nat.div_lt_self (by omega) (by omega)
theorem dgs_zero (b : Nat) : dgs b 0 = [] := by rw [dgs]; simp
theorem dgs_pos (b n : Nat) (h : n ≠ 0) : dgs b n = ((n % (b + 2) : Nat) : Int) :: dgs b (n / (b + 2)) := by rw [dgs]; simp [h]
theorem dgs_spec (b : Nat) : ∀ n, Dig (b + 2 : Nat) (dgs b n) ∧ Trim (dgs b n) ∧ vB (b + 2 : Nat) (dgs b n) = n := by
  intro n
  induction n using Nat.strongRecOn with
  | _ n ih =>
    by_cases h : n = 0
    · subst h
      rw [dgs_zero]
      exact ⟨Dig_nil _, fun h => absurd h (by simp), rfl⟩
    · obtain ⟨h1, h2, h3⟩ := ih (n / (b + 2)) (Nat.div_lt_self (by omega) (by omega))
      rw [dgs_pos b n h]
      have hm := Nat.mod_lt n (show 0 < b + 2 by omega)
      have hd := Nat.div_add_mod n (b + 2)
      refine ⟨Dig_cons.2 ⟨⟨by omega, by omega⟩, h1⟩, ?_, ?_⟩
      · intro _
        by_cases hz : n / (b + 2) = 0
        · rw [hz, dgs_zero]
          show rd [((n % (b + 2) : Nat) : Int)] ((0 : Nat) : Int) ≠ 0
          rw [hz] at hd
          have : ((n % (b + 2) : Nat) : Int) ≠ 0 := by omega
          simpa [rd] using this
        · have hl : 0 < (dgs b (n / (b + 2))).length := by rw [dgs_pos _ _ hz]; simp
          have := h2 hl
          rw [List.length_cons, Nat.add_sub_cancel]
          obtain ⟨q, hq⟩ : ∃ q, (dgs b (n / (b + 2))).length = q + 1 := ⟨(dgs b (n / (b + 2))).length - 1, by omega⟩
          rw [hq] at this ⊢
          rw [rd_nat] at this ⊢
          simpa using this
      · rw [vB_cons, h3]
        have : ((b + 2 : Nat) : Int) * ((n / (b + 2) : Nat) : Int) + ((n % (b + 2) : Nat) : Int) = n := by exact_mod_cast hd
        omega
theorem dgs_unique {b : Nat} {l : List Int} {n : Nat} (hl : Dig (b + 2 : Nat) l) (ht : Trim l) (hv : vB (b + 2 : Nat) l = n) : l = dgs b n := by
  obtain ⟨h1, h2, h3⟩ := dgs_spec b n
  exact trim_inj (by omega) hl h1 ht h2 (by rw [hv, h3])
theorem dgs_len {b n k : Nat} (h : n < (b + 2) ^ k) : (dgs b n).length ≤ k := by
  obtain ⟨h1, h2, h3⟩ := dgs_spec b n
  rcases Nat.lt_or_ge k (dgs b n).length with hk | hk
  · have h4 := trim_le (by omega) h1 h2 (by omega)
    rw [h3] at h4
    have h5 := pow_le_pow (B := ((b + 2 : Nat) : Int)) (by omega) (show k ≤ (dgs b n).length - 1 by omega)
    have h6 : ((n : Nat) : Int) < ((b + 2 : Nat) : Int) ^ k := by exact_mod_cast h
    omega
  · exact hk
theorem dgs_lt (b n : Nat) : n < (b + 2) ^ (dgs b n).length := by
  obtain ⟨h1, h2, h3⟩ := dgs_spec b n
  have := vB_lt (by omega) h1
  rw [h3] at this
  exact_mod_cast this
end Go.Proofs.YtohkmnbnjacfaaaN
set_option linter.unusedVariables false
namespace Go.Proofs.YtohkmnbnjacfaaaN
open Go.RowKit Go.Proofs.Ytohkmnbnjacfaaa.All Go.Proofs.YtohkmnbnjacfaaaW.PrintWords Go.Proofs.YtohkmnbnjacfaaaW.PrintLast Go.Proofs.YtohkmnbnjacfaaaW.PrintMore
theorem w64 {x : Int} (h0 : -9223372036854775808 ≤ x) (h1 : x < 9223372036854775808) : wrap64 x = x := by unfold wrap64; omega
theorem u64 {x : Int} (h0 : 0 ≤ x) (h1 : x < 18446744073709551616) : IntKind.u64.wrap x = x := by
  simp [IntKind.wrap, IntKind.bits, IntKind.signed]
  omega
theorem u64_mod (x : Int) : IntKind.u64.wrap x = x % 18446744073709551616 := by simp [IntKind.wrap, IntKind.bits, IntKind.signed]
abbrev B64 : Int := 18446744073709551616
def d64 (n : Nat) : List Int := dgs 18446744073709551614 n
theorem d64_dig (n : Nat) : Dig B64 (d64 n) := (dgs_spec 18446744073709551614 n).1
theorem d64_trim (n : Nat) : Trim (d64 n) := (dgs_spec 18446744073709551614 n).2.1
theorem d64_val (n : Nat) : vB B64 (d64 n) = n := (dgs_spec 18446744073709551614 n).2.2
theorem d64_unique {l : List Int} {n : Nat} (hl : Dig B64 l) (ht : Trim l) (hv : vB B64 l = n) : l = d64 n := dgs_unique hl ht hv
theorem d64_zero : d64 0 = [] := dgs_zero _
def d8 (n : Nat) : List Int := dgs 254 n
theorem d8_dig (n : Nat) : Dig 256 (d8 n) := (dgs_spec 254 n).1
theorem d8_trim (n : Nat) : Trim (d8 n) := (dgs_spec 254 n).2.1
theorem d8_val (n : Nat) : vB 256 (d8 n) = n := (dgs_spec 254 n).2.2
theorem d8_unique {l : List Int} {n : Nat} (hl : Dig 256 l) (ht : Trim l) (hv : vB 256 l = n) : l = d8 n := dgs_unique hl ht hv
def nat (n : Nat) : ByteArray := strOfNums (d8 n).reverse
theorem bytesOf_str {l : List Int} (h : Dig 256 l) : bytesOf (strOfNums l) = l := by
  unfold bytesOf
  rw [strOfNums_data, List.map_map]
  conv => rhs; rw [← List.map_id l]
  refine List.map_congr_left fun x hx => ?_
  have := h x hx
  simp [UInt8.toNat_ofNat']
  omega
theorem str_bytesOf (s : ByteArray) : strOfNums (bytesOf s) = s := by
  unfold strOfNums bytesOf
  rw [List.map_map]
  have : List.map ((fun n : Int => UInt8.ofNat n.toNat) ∘ fun b : UInt8 => (b.toNat : Int)) s.data.toList = s.data.toList := by
    conv => rhs; rw [← List.map_id s.data.toList]
    refine List.map_congr_left fun x _ => ?_
    simp
  rw [this]
theorem bytesOf_dig (s : ByteArray) : Dig 256 (bytesOf s) := by
  intro x hx
  unfold bytesOf at hx
  obtain ⟨b, _, rfl⟩ := List.mem_map.1 hx
  have := b.toNat_lt
  omega
theorem str_ext {s t : ByteArray} (h : bytesOf s = bytesOf t) : s = t := by rw [← str_bytesOf s, h, str_bytesOf]
theorem toList_nil {s : ByteArray} : s.toList = [] ↔ s.size = 0 := by
  rw [ByteArray.toList_eq, ← List.length_eq_zero_iff, data_length]
theorem nat_bytes (n : Nat) : bytesOf (nat n) = (d8 n).reverse := bytesOf_str (Dig_reverse (d8_dig n))
theorem nat_size (n : Nat) : (nat n).size = (d8 n).length := by rw [← bytesOf_length, nat_bytes, List.length_reverse]
def bval (s : ByteArray) : Int := vB 256 (bytesOf s).reverse
theorem bval_nat (n : Nat) : bval (nat n) = n := by unfold bval; rw [nat_bytes, List.reverse_reverse, d8_val]
theorem bval_nonneg (s : ByteArray) : 0 ≤ bval s := vB_nonneg (by decide) (Dig_reverse (bytesOf_dig s))
theorem rd_reverse (l : List Int) (n : Nat) (h : n < l.length) : rd l.reverse (n : Int) = rd l ((l.length - 1 - n : Nat) : Int) := by
  rw [rd_get _ n (by simpa using h), rd_get _ _ (by omega), List.getElem_reverse]
theorem bt_rd (s : ByteArray) (i : Int) : bt s i = rd (bytesOf s) i := (rd_bytesOf s i).symm
theorem wf_nat {s : ByteArray} (h : s.size = 0 ∨ bt s 0 ≠ 0) : s = nat (bval s).toNat := by
  apply str_ext
  rw [nat_bytes]
  have ht : Trim (bytesOf s).reverse := by
    intro hp
    rw [List.length_reverse] at hp ⊢
    rw [rd_reverse _ _ (by omega), bt_rd] at *
    rw [bytesOf_length] at hp
    have e : (bytesOf s).length - 1 - ((bytesOf s).length - 1) = 0 := by omega
    rw [e]
    rcases h with h | h
    · omega
    · exact h
  have := d8_unique (n := (bval s).toNat) (Dig_reverse (bytesOf_dig s)) ht (by have := bval_nonneg s; unfold bval at this ⊢; omega)
  rw [← this, List.reverse_reverse]
theorem nat_wf (n : Nat) : (nat n).size = 0 ∨ bt (nat n) 0 ≠ 0 := by
  rcases Nat.eq_zero_or_pos (d8 n).length with h | h
  · left; rw [nat_size, h]
  · right
    rw [bt_rd, nat_bytes]
    have := d8_trim n h
    have e := rd_reverse (d8 n) 0 (by omega)
    rw [show (d8 n).length - 1 - 0 = (d8 n).length - 1 by omega] at e
    rw [← e] at this
    exact this
theorem nat_zero : nat 0 = ⟨#[]⟩ := by unfold nat d8; rw [dgs_zero]; rfl
theorem nat_size_zero {n : Nat} : (nat n).size = 0 ↔ n = 0 := by
  constructor
  · intro h
    rw [nat_size] at h
    have := d8_val n
    rw [List.eq_nil_of_length_eq_zero h] at this
    simp [vB] at this
    omega
  · rintro rfl; rw [nat_zero]; rfl
theorem nat_size_le {n k : Nat} : (nat n).size ≤ k ↔ n < 256 ^ k := by
  rw [nat_size]
  constructor
  · intro h
    exact Nat.lt_of_lt_of_le (dgs_lt 254 n) (Nat.pow_le_pow_right (by decide) h)
  · intro h
    exact dgs_len h
theorem nat_lt_size (n : Nat) : n < 256 ^ (nat n).size := nat_size_le.1 (Nat.le_refl _)
theorem vB_zero (B : Int) : ∀ {l : List Int}, (∀ j : Nat, j < l.length → rd l (j : Int) = 0) → vB B l = 0
  | [], _ => rfl
  | x :: xs, h => by
    have h0 : x = 0 := h 0 (by simp)
    have := vB_zero B (l := xs) (fun j hj => by
      have := h (j + 1) (by simpa using hj)
      rw [rd_nat] at this ⊢
      simpa using this)
    rw [vB_cons, h0, this]
    simp
theorem vB_low (B : Int) {l : List Int} {n : Nat} (hn : n ≤ l.length) (h : ∀ j : Nat, n ≤ j → j < l.length → rd l (j : Int) = 0) : vB B l = vB B (l.take n) := by
  rw [vB_split B l n hn, vB_zero B (l := l.drop n) (fun j hj => by rw [rd_drop]; exact h _ (by omega) (by simp at hj; omega))]
  simp
theorem trim_l0 (l : List Int) (hd : Dig B64 l) (hl : l.length < 9223372036854775808) : ∀ n : Nat, n ≤ l.length → (∀ j : Nat, n ≤ j → j < l.length → rd l (j : Int) = 0) → Ev (fun k => exact_trim.l0 k l (n : Int)) (d64 (vB B64 l).toNat) := by
  have hv := vB_nonneg (by decide) hd
  intro n
  induction n with
  | zero =>
    intro hn h
    refine Ev.step (f := fun _ => some (d64 (vB B64 l).toNat)) (fun k => ?_) (Ev.now _)
    simp only [exact_trim.l0]
    rw [if_neg (by omega), if_pos (by omega), if_pos (by omega)]
    have := vB_low B64 hn h
    rw [this]
    simp [vB, d64_zero]
  | succ n ih =>
    intro hn h
    have e1 : wrap64 (((n + 1 : Nat) : Int) - 1) = (n : Int) := by rw [w64 (by omega) (by omega)]; omega
    by_cases hz : rd l (n : Int) = 0
    · refine Ev.step (f := fun k => exact_trim.l0 k l (n : Int)) (fun k => ?_) (ih (by omega) (fun j hj hjl => ?_))
      · simp only [exact_trim.l0, e1]
        rw [if_pos (by omega), if_pos (by omega), if_pos (by omega), if_pos hz]
      · rcases Nat.lt_or_ge n j with hlt | hge
        · exact h j hlt hjl
        · have : j = n := by omega
          subst this
          exact hz
    · refine Ev.step (f := fun _ => some (d64 (vB B64 l).toNat)) (fun k => ?_) (Ev.now _)
      simp only [exact_trim.l0, e1]
      rw [if_pos (by omega), if_pos (by omega), if_pos (by omega), if_neg hz, if_pos (by omega), if_pos (by omega)]
      congr 1
      have hlen : (l.take (n + 1)).length = n + 1 := by rw [List.length_take]; omega
      refine d64_unique (Dig_take hd _) (fun _ => ?_) ?_
      · rw [Int.toNat_natCast, hlen, Nat.add_sub_cancel, rd_take l _ _ (by omega)]
        exact hz
      · rw [Int.toNat_natCast, ← vB_low B64 hn h]
        omega
theorem trim_ev {l : List Int} (hd : Dig B64 l) (hl : l.length < 9223372036854775808) : Ev (fun k => exact_trim.f k l) (d64 (vB B64 l).toNat) :=
  trim_l0 l hd hl l.length (Nat.le_refl _) (fun j h1 h2 => absurd h1 (by omega))
end Go.Proofs.YtohkmnbnjacfaaaN
set_option linter.unusedVariables false
namespace Go.Proofs.YtohkmnbnjacfaaaN
open Go.RowKit Go.Proofs.Ytohkmnbnjacfaaa.All Go.Proofs.YtohkmnbnjacfaaaW.PrintWords Go.Proofs.YtohkmnbnjacfaaaW.PrintLast Go.Proofs.YtohkmnbnjacfaaaW.PrintMore
theorem wraps_u64 (n : Int) (h0 : 0 ≤ n) (h1 : n < 2 ^ 64) : IntKind.u64.wrap n = n := u64 h0 (by simpa using h1)
theorem pow8 (q r : Nat) : (B64 : Int) ^ q * 256 ^ r = 256 ^ (8 * q + r) := by
  have e : (256 : Int) ^ 8 = B64 := rfl
  rw [Int.pow_add, Int.pow_mul, e]
theorem high_succ (s : ByteArray) (i : Nat) (h : i < s.size) : vB 256 ((bytesOf s).take (i + 1)).reverse = bt s i + 256 * vB 256 ((bytesOf s).take i).reverse := by
  rw [List.take_succ_eq_append_getElem (by rw [bytesOf_length]; exact h), List.reverse_append, bt_rd, rd_get _ i (by rw [bytesOf_length]; exact h)]
  rfl
theorem high_all (s : ByteArray) : vB 256 ((bytesOf s).take s.size).reverse = bval s := by
  rw [List.take_of_length_le (by rw [bytesOf_length]; exact Nat.le_refl _)]
  rfl
theorem word_or (x c : Int) (r : Nat) (hr : r < 8) (hx0 : 0 ≤ x) (hx1 : x < B64) (hm : x % 256 ^ (r + 1) = 0) (hc0 : 0 ≤ c) (hc1 : c ≤ 255) :
    Go.bits .or .u64 x (shl .u64 (IntKind.u64.wrap c) (8 * r : Nat)) = x + c * 256 ^ r ∧ 0 ≤ x + c * 256 ^ r ∧ x + c * 256 ^ r < B64 ∧ (x + c * 256 ^ r) % 256 ^ r = 0 := by
  have h64 : (B64 : Int) = 18446744073709551616 := rfl
  have hs : shl .u64 (IntKind.u64.wrap c) (8 * r : Nat) = c * 256 ^ r := by
    unfold shl
    rw [u64 hc0 (by omega), Int.toNat_natCast]
    have : min (8 * r) IntKind.u64.bits = 8 * r := Nat.min_eq_left (by show 8 * r ≤ 64; omega)
    rw [this, Int.pow_mul]
    have e : (2 : Int) ^ 8 = 256 := rfl
    rw [e]
    apply u64
    · exact Int.mul_nonneg hc0 (Int.le_of_lt (Int.pow_pos (by decide)))
    · have : r = 0 ∨ r = 1 ∨ r = 2 ∨ r = 3 ∨ r = 4 ∨ r = 5 ∨ r = 6 ∨ r = 7 := by omega
      rcases this with rfl | rfl | rfl | rfl | rfl | rfl | rfl | rfl <;> omega
  rw [hs]
  have hb : 0 ≤ c * 256 ^ r ∧ c * 256 ^ r < 256 ^ (r + 1) ∧ 0 ≤ x + c * 256 ^ r ∧ x + c * 256 ^ r < B64 ∧ (x + c * 256 ^ r) % 256 ^ r = 0 ∧ c * 256 ^ r < 2 ^ 64 := by
    have : r = 0 ∨ r = 1 ∨ r = 2 ∨ r = 3 ∨ r = 4 ∨ r = 5 ∨ r = 6 ∨ r = 7 := by omega
    rcases this with rfl | rfl | rfl | rfl | rfl | rfl | rfl | rfl <;> (clear hs; simp only [B64] at hx1 ⊢; omega)
  refine ⟨?_, hb.2.2.1, hb.2.2.2.1, hb.2.2.2.2.1⟩
  have hp : (2 : Int) ^ (8 * (r + 1)) = 256 ^ (r + 1) := by rw [Int.pow_mul]; rfl
  exact bits_join .u64 64 (by decide) wraps_u64 (8 * (r + 1)) x (c * 256 ^ r) hx0 (by rw [hp]; exact hm) (by rw [h64] at hx1; simpa using hx1) hb.1 (by rw [hp]; exact hb.2.1) hb.2.2.2.2.2
theorem words_l0 (s : ByteArray) (hs : s.size ≤ 1099511627776) : ∀ (d i : Nat) (w : List Int), i + d = s.size → w.length = (s.size + 7) / 8 → Dig B64 w → vB B64 w = vB 256 ((bytesOf s).take i).reverse * 256 ^ d →
    (0 < d → rd w ((d - 1) / 8 : Nat) % 256 ^ ((d - 1) % 8 + 1) = 0 ∧ ∀ q : Nat, q < (d - 1) / 8 → rd w (q : Int) = 0) → Ev (fun k => exact_words.l0 k s w (s.size : Int) (i : Int)) (d64 (bval s).toNat) := by
  intro d
  induction d with
  | zero =>
    intro i w hi hl hd hv _
    have hi : i = s.size := by omega
    subst hi
    have hv' : vB B64 w = bval s := by rw [hv, high_all]; simp
    refine Ev.step (f := fun k => (exact_trim.f k w).bind fun t => some t) (fun k => ?_) (Ev.bind (trim_ev hd (by omega)) ?_)
    · simp only [exact_words.l0]
      rw [if_neg (by omega)]
    · rw [hv']
      exact Ev.now _
  | succ d ih =>
    intro i w hi hl hd hv hz
    obtain ⟨hz1, hz2⟩ := hz (by omega)
    rw [Nat.add_sub_cancel] at hz1 hz2
    have hq : d / 8 < w.length := by omega
    have hr : d % 8 < 8 := Nat.mod_lt _ (by decide)
    have e1 : wrap64 (Int.tdiv (wrap64 (wrap64 ((s.size : Int) - 1) - (i : Int))) 8) = ((d / 8 : Nat) : Int) := by
      rw [w64 (x := (s.size : Int) - 1) (by omega) (by omega), w64 (x := (s.size : Int) - 1 - (i : Int)) (by omega) (by omega)]
      have : (s.size : Int) - 1 - (i : Int) = (d : Int) := by omega
      rw [this, Int.tdiv_eq_ediv_of_nonneg (by omega), w64 (by omega) (by omega)]
      omega
    have e2 : wrap64 (8 * Int.tmod (wrap64 (wrap64 ((s.size : Int) - 1) - (i : Int))) 8) = ((8 * (d % 8) : Nat) : Int) := by
      rw [w64 (x := (s.size : Int) - 1) (by omega) (by omega), w64 (x := (s.size : Int) - 1 - (i : Int)) (by omega) (by omega)]
      have : (s.size : Int) - 1 - (i : Int) = (d : Int) := by omega
      rw [this, Int.tmod_eq_emod_of_nonneg (by omega), w64 (by omega) (by omega)]
      omega
    have e3 : wrap64 ((i : Int) + 1) = ((i + 1 : Nat) : Int) := by rw [w64 (by omega) (by omega)]; omega
    have c1 : (i : Int) < (s.size : Int) := by omega
    have c3 : ((d / 8 : Nat) : Int) < (w.length : Int) := Int.ofNat_lt.2 hq
    have c4 : 0 < (d / 8 : Nat) → d % 8 = 0 → (d - 1) / 8 = d / 8 - 1 := by omega
    have hi' : i + 1 + d = s.size := by omega
    obtain ⟨hx0, hx1⟩ := Dig_rd hd (d / 8) hq
    obtain ⟨hc0, hc1⟩ := bt_range s (i : Int)
    obtain ⟨ho, ho0, ho1, ho2⟩ := word_or (rd w ((d / 8 : Nat) : Int)) (bt s (i : Int)) (d % 8) hr hx0 hx1 hz1 hc0 hc1
    have hk : 8 * (d / 8) + d % 8 = d := Nat.div_add_mod d 8
    refine Ev.step (f := fun k => exact_words.l0 k s (w.set (d / 8) (rd w ((d / 8 : Nat) : Int) + bt s (i : Int) * 256 ^ (d % 8))) (s.size : Int) ((i + 1 : Nat) : Int)) (fun k => ?_) (ih (i + 1) _ hi' (by rw [List.length_set]; exact hl) (Dig_set hd _ ho0 ho1) ?_ ?_)
    · simp only [exact_words.l0, e1, e2, e3]
      rw [if_pos c1, if_pos (Int.natCast_nonneg _), if_pos c3, if_pos (Int.natCast_nonneg _), if_pos c1, if_pos (Int.natCast_nonneg _), ho, Int.toNat_natCast]
    · rw [vB_set _ _ _ _ hq, hv, high_succ s i (by omega)]
      have e : rd w ((d / 8 : Nat) : Int) + bt s (i : Int) * 256 ^ (d % 8) - rd w ((d / 8 : Nat) : Int) = 256 ^ (d % 8) * bt s (i : Int) := by
        rw [Int.mul_comm (256 ^ (d % 8))]; omega
      rw [e, ← Int.mul_assoc, pow8, hk, Int.pow_succ, Int.add_mul]
      generalize vB 256 ((bytesOf s).take i).reverse = H
      generalize (256 : Int) ^ d = P
      generalize bt s (i : Int) = c
      rw [Int.mul_comm P c, Int.add_comm, Int.mul_assoc 256 H P, Int.mul_comm P 256, ← Int.mul_assoc H 256 P, Int.mul_comm H 256, Int.mul_assoc 256 H P]
    · intro hd0
      by_cases h0 : d % 8 = 0
      · have h1 : (d - 1) / 8 = d / 8 - 1 := by omega
        have h2 : 0 < d / 8 := by omega
        rw [h1]
        refine ⟨?_, fun q hq' => ?_⟩
        · rw [rd_set_ne _ _ _ _ (by omega), hz2 _ (by omega)]
          simp
        · rw [rd_set_ne _ _ _ _ (by omega), hz2 _ (by omega)]
      · have h1 : (d - 1) / 8 = d / 8 := by omega
        have h2 : (d - 1) % 8 + 1 = d % 8 := by omega
        rw [h1, h2]
        refine ⟨?_, fun q hq' => ?_⟩
        · rw [rd_set_self _ _ _ hq]
          exact ho2
        · rw [rd_set_ne _ _ _ _ (by omega), hz2 _ (by omega)]
theorem words_ev (s : ByteArray) (hs : s.size ≤ 1099511627776) : Ev (fun k => exact_words.f k s) (d64 (bval s).toNat) := by
  have e1 : wrap64 (Int.tdiv (wrap64 ((s.size : Int) + 7)) 8) = (((s.size + 7) / 8 : Nat) : Int) := by
    rw [w64 (x := (s.size : Int) + 7) (by omega) (by omega), Int.tdiv_eq_ediv_of_nonneg (by omega), w64 (by omega) (by omega)]
    omega
  refine Ev.congr (f := fun k => exact_words.l0 k s (List.replicate ((s.size + 7) / 8) 0) (s.size : Int) ((0 : Nat) : Int)) (fun k => ?_) (words_l0 s hs s.size 0 _ (by omega) (by simp) (Dig_replicate (by decide) _) ?_ ?_)
  · unfold exact_words.f
    rw [e1, if_pos (by omega), Int.toNat_natCast, if_pos (by omega)]
    rfl
  · rw [vB_replicate]
    simp [vB]
  · intro _
    exact ⟨by rw [rd_replicate]; simp, fun q _ => rd_replicate _ _⟩
theorem words_nat {n : Nat} (hs : (nat n).size ≤ 1099511627776) : Ev (fun k => exact_words.f k (nat n)) (d64 n) := by
  have := words_ev (nat n) hs
  rwa [bval_nat, Int.toNat_natCast] at this
theorem set_reverse (l : List Int) (p : Nat) (v : Int) (h : p < l.length) : (l.set p v).reverse = l.reverse.set (l.length - 1 - p) v := by
  apply List.ext_getElem?
  intro j
  rcases Nat.lt_or_ge j l.length with hj | hj
  · rw [List.getElem?_reverse (by rw [List.length_set]; exact hj), List.length_set, List.getElem?_set, List.getElem?_set, List.length_reverse]
    by_cases e : p = l.length - 1 - j
    · have e' : l.length - 1 - p = j := by omega
      rw [if_pos e, if_pos h, if_pos e', if_pos (by omega)]
    · have e' : ¬ l.length - 1 - p = j := by omega
      rw [if_neg e, if_neg e', List.getElem?_reverse hj]
  · rw [List.getElem?_eq_none (by simp; omega), List.getElem?_eq_none (by simp; omega)]
theorem pack_l2 (b : List Int) (hd : Dig 256 b) (hb : b.length < 9223372036854775807) (n : Nat) (hv : vB 256 b.reverse = n) (hn : n ≠ 0) : ∀ (d i : Nat), i + d = b.length → (∀ j : Nat, j < i → rd b (j : Int) = 0) → Ev (fun k => exact_pack.l2 k b (i : Int)) (nat n) := by
  intro d
  induction d with
  | zero =>
    intro i hi hz
    have := vB_zero 256 (l := b.reverse) (fun j hj => by
      rw [List.length_reverse] at hj
      rw [rd_reverse _ _ hj]
      exact hz _ (by omega))
    omega
  | succ d ih =>
    intro i hi hz
    by_cases h0 : rd b (i : Int) = 0
    · have e1 : wrap64 ((i : Int) + 1) = ((i + 1 : Nat) : Int) := by rw [w64 (by omega) (by omega)]; omega
      refine Ev.step (f := fun k => exact_pack.l2 k b ((i + 1 : Nat) : Int)) (fun k => ?_) (ih (i + 1) (by omega) (fun j hj => ?_))
      · simp only [exact_pack.l2, e1]
        rw [if_pos (by omega), if_pos (by omega), if_pos h0]
      · rcases Nat.lt_or_ge j i with h | h
        · exact hz j h
        · have : j = i := by omega
          subst this
          exact h0
    · refine Ev.step (f := fun _ => some (nat n)) (fun k => ?_) (Ev.now _)
      simp only [exact_pack.l2]
      rw [if_pos (by omega), if_pos (by omega), if_neg h0, if_pos (by omega), Int.toNat_natCast]
      congr 1
      unfold nat
      congr 1
      have hu : (b.drop i).reverse = d8 n := by
        refine d8_unique (Dig_reverse (Dig_drop hd _)) (fun hp => ?_) ?_
        · rw [List.length_reverse] at hp ⊢
          rw [rd_reverse _ _ (by omega), rd_drop]
          have : i + ((b.drop i).length - 1 - ((b.drop i).length - 1)) = i := by omega
          rw [this]
          exact h0
        · rw [← hv]
          conv => rhs; rw [← List.take_append_drop i b]
          rw [List.reverse_append, vB_append, vB_zero 256 (l := (b.take i).reverse) (fun j hj => ?_)]
          · simp
          · rw [List.length_reverse] at hj
            have hl : (b.take i).length = i := by rw [List.length_take]; omega
            rw [rd_reverse _ _ hj, rd_take _ _ _ (by omega)]
            exact hz _ (by omega)
      rw [← hu, List.reverse_reverse]
theorem byte_of (x : Int) (s : Nat) (hs : s < 8) (h0 : 0 ≤ x) (h1 : x < B64) : shr .u64 x ((8 * s : Nat) : Int) % 256 = x / 256 ^ s % 256 := by
  unfold shr
  rw [Int.toNat_natCast]
  have : min (8 * s) IntKind.u64.bits = 8 * s := Nat.min_eq_left (by show 8 * s ≤ 64; omega)
  rw [this, Int.pow_mul]
  rfl
theorem byte_step (x : Int) (s : Nat) (hs : s < 8) (h0 : 0 ≤ x) (h1 : x < B64) : x % 256 ^ (s + 1) = x % 256 ^ s + 256 ^ s * (x / 256 ^ s % 256) := by
  have : s = 0 ∨ s = 1 ∨ s = 2 ∨ s = 3 ∨ s = 4 ∨ s = 5 ∨ s = 6 ∨ s = 7 := by omega
  rcases this with rfl | rfl | rfl | rfl | rfl | rfl | rfl | rfl <;> simp <;> omega
def Packed (w b : List Int) (i s : Nat) : Prop :=
  b.length = 8 * w.length ∧ Dig 256 b ∧ vB 256 b.reverse = vB B64 (w.take i) + B64 ^ i * (rd w (i : Int) % 256 ^ s) ∧ ∀ j : Nat, 8 * i + s ≤ j → rd b.reverse (j : Int) = 0
theorem packed_step {w b : List Int} {i s : Nat} (hw : Dig B64 w) (hi : i < w.length) (hs : s < 8) (h : Packed w b i s) :
    8 * i + s < b.length ∧ Packed w (b.set (b.length - 1 - (8 * i + s)) (rd w (i : Int) / 256 ^ s % 256)) i (s + 1) := by
  obtain ⟨hl, hd, hv, hz⟩ := h
  obtain ⟨hx0, hx1⟩ := Dig_rd hw i hi
  have hlt : 8 * i + s < b.length := by omega
  refine ⟨hlt, by rw [List.length_set]; exact hl, Dig_set hd _ (Int.emod_nonneg _ (by decide)) (Int.emod_lt_of_pos _ (by decide)), ?_, fun j hj => ?_⟩
  · rw [set_reverse _ _ _ (by omega)]
    have e : b.length - 1 - (b.length - 1 - (8 * i + s)) = 8 * i + s := by omega
    rw [e, vB_set _ _ _ _ (by rw [List.length_reverse]; exact hlt), hz _ (Nat.le_refl _), hv, byte_step _ s hs hx0 hx1, Int.sub_zero, Int.mul_add, ← pow8, Int.mul_assoc, Int.add_assoc]
  · rw [set_reverse _ _ _ (by omega)]
    have e : b.length - 1 - (b.length - 1 - (8 * i + s)) = 8 * i + s := by omega
    rw [e, rd_set_ne _ _ _ _ (by omega)]
    exact hz j (by omega)
theorem packed_word {w b : List Int} {i : Nat} (hw : Dig B64 w) (hi : i < w.length) (h : Packed w b i 8) : Packed w b (i + 1) 0 := by
  obtain ⟨hl, hd, hv, hz⟩ := h
  obtain ⟨hx0, hx1⟩ := Dig_rd hw i hi
  refine ⟨hl, hd, ?_, fun j hj => hz j (by omega)⟩
  rw [hv, vB_take_succ _ _ _ hi]
  have : rd w (i : Int) % 256 ^ 8 = rd w (i : Int) := Int.emod_eq_of_lt hx0 hx1
  rw [this]
  simp
theorem pack_l1 (w : List Int) (hw : Dig B64 w) (hl : w.length ≤ 1099511627776) (i : Nat) (hi : i < w.length) (r : ByteArray)
    (next : ∀ b, Packed w b (i + 1) 0 → Ev (fun k => exact_pack.l0 k b w (w.length : Int) ((i + 1 : Nat) : Int)) r) : ∀ (d s : Nat) (b : List Int), s + d = 8 → Packed w b i s →
    Ev (fun k => exact_pack.l1 k b (i : Int) (rd w (i : Int)) w (w.length : Int) (i : Int) (s : Int)) r := by
  obtain ⟨hx0, hx1⟩ := Dig_rd hw i hi
  intro d
  induction d with
  | zero =>
    intro s b hs hp
    have hs : s = 8 := by omega
    subst hs
    refine Ev.step (f := fun k => exact_pack.l0 k b w (w.length : Int) ((i + 1 : Nat) : Int)) (fun k => ?_) (next b (packed_word hw hi hp))
    have c1 : ¬ ((8 : Nat) : Int) < 8 := by omega
    have e1 : wrap64 ((i : Int) + 1) = ((i + 1 : Nat) : Int) := by rw [w64 (by omega) (by omega)]; omega
    simp only [exact_pack.l1, e1]
    rw [if_neg c1]
  | succ d ih =>
    intro s b hs hp
    have hlb := hp.1
    obtain ⟨hlt, hp'⟩ := packed_step hw hi (by omega) hp
    refine Ev.step (f := fun k => exact_pack.l1 k (b.set (b.length - 1 - (8 * i + s)) (rd w (i : Int) / 256 ^ s % 256)) (i : Int) (rd w (i : Int)) w (w.length : Int) (i : Int) ((s + 1 : Nat) : Int)) (fun k => ?_) (ih (s + 1) _ (by omega) hp')
    have c1 : ((s : Nat) : Int) < 8 := by omega
    have c2 : ((b.length - 1 - (8 * i + s) : Nat) : Int) < (b.length : Int) := by omega
    have e0 := byte_of _ s (by omega) hx0 hx1
    have e1 : wrap64 (8 * (s : Int)) = ((8 * s : Nat) : Int) := by rw [w64 (by omega) (by omega)]; omega
    have e2 : wrap64 (wrap64 (wrap64 ((b.length : Int) - 1) - ((8 * i : Nat) : Int)) - (s : Int)) = ((b.length - 1 - (8 * i + s) : Nat) : Int) := by
      clear e1 e0
      rw [w64 (x := (b.length : Int) - 1) (by omega) (by omega), w64 (x := (b.length : Int) - 1 - ((8 * i : Nat) : Int)) (by omega) (by omega), w64 (by omega) (by omega)]
      omega
    have e4 : wrap64 (8 * (i : Int)) = ((8 * i : Nat) : Int) := by clear e0 e1 e2; rw [w64 (by omega) (by omega)]; omega
    have e3 : wrap64 ((s : Int) + 1) = ((s + 1 : Nat) : Int) := by clear e0 e1 e2 e4; rw [w64 (by omega) (by omega)]; omega
    simp only [exact_pack.l1, e1, e4, e2, e3]
    rw [if_pos c1, if_pos (Int.natCast_nonneg _), if_pos (Int.natCast_nonneg _), if_pos c2, Int.toNat_natCast, e0]
theorem pack_l0 (w : List Int) (hw : Dig B64 w) (hl : w.length ≤ 1099511627776) (n : Nat) (hv : vB B64 w = n) (hn : n ≠ 0) : ∀ (d i : Nat) (b : List Int), i + d = w.length → Packed w b i 0 → Ev (fun k => exact_pack.l0 k b w (w.length : Int) (i : Int)) (nat n) := by
  intro d
  induction d with
  | zero =>
    intro i b hi hp
    obtain ⟨h1, h2, h3, h4⟩ := hp
    have hi : i = w.length := by omega
    subst hi
    have e : vB 256 b.reverse = n := by
      rw [h3, List.take_of_length_le (Nat.le_refl _), hv]
      simp
    refine Ev.step (f := fun k => exact_pack.l2 k b ((0 : Nat) : Int)) (fun k => ?_) (pack_l2 b h2 (by omega) n e hn b.length 0 (by omega) (fun j hj => absurd hj (by omega)))
    simp only [exact_pack.l0]
    rw [if_neg (by omega)]
    rfl
  | succ d ih =>
    intro i b hi hp
    refine Ev.step (f := fun k => exact_pack.l1 k b (i : Int) (rd w (i : Int)) w (w.length : Int) (i : Int) ((0 : Nat) : Int)) (fun k => ?_) (pack_l1 w hw hl i (by omega) (nat n) (fun b' hp' => ih (i + 1) b' (by omega) hp') 8 0 b (by omega) hp)
    simp only [exact_pack.l0]
    rw [if_pos (by omega), if_pos (by omega), if_pos (by omega)]
    rfl
theorem pack_ev {l : List Int} (hd : Dig B64 l) (hl : l.length ≤ 1099511627776) : Ev (fun k => exact_pack.f k l) (nat (vB B64 l).toNat) := by
  have hv := vB_nonneg (by decide) hd
  have ht : (d64 (vB B64 l).toNat).length ≤ l.length := dgs_len (by
    have := vB_lt (by decide) hd
    have h1 : (((vB B64 l).toNat : Nat) : Int) < ((18446744073709551614 + 2 : Nat) : Int) ^ l.length := by
      rw [Int.toNat_of_nonneg hv]
      exact this
    exact_mod_cast h1)
  refine Ev.congr (f := fun k => (exact_trim.f k l).bind fun t => if (t.length : Int) = 0 then some (⟨#[]⟩ : ByteArray) else if 0 ≤ wrap64 (8 * (t.length : Int)) then (if (wrap64 (8 * (t.length : Int)) : Int).toNat ≤ 281474976710656 then exact_pack.l0 k (List.replicate (wrap64 (8 * (t.length : Int)) : Int).toNat 0) t (t.length : Int) 0 else none) else none) (fun k => rfl) (Ev.bind (trim_ev hd (by omega)) ?_)
  generalize hn : (vB B64 l).toNat = n at *
  by_cases h0 : n = 0
  · subst h0
    rw [d64_zero, nat_zero]
    exact Ev.now _
  · have hne : (d64 n).length ≠ 0 := by
      intro h
      have := d64_val n
      rw [List.eq_nil_of_length_eq_zero h] at this
      simp [vB] at this
      omega
    have e1 : wrap64 (8 * ((d64 n).length : Int)) = ((8 * (d64 n).length : Nat) : Int) := by rw [w64 (by omega) (by omega)]; omega
    refine Ev.congr (f := fun k => exact_pack.l0 k (List.replicate (8 * (d64 n).length) 0) (d64 n) ((d64 n).length : Int) ((0 : Nat) : Int)) (fun k => ?_) (pack_l0 (d64 n) (d64_dig n) (by omega) n (d64_val n) h0 (d64 n).length 0 _ (by omega) ⟨by simp, Dig_replicate (by decide) _, ?_, fun j _ => ?_⟩)
    · rw [e1, if_neg (by omega), if_pos (by omega), Int.toNat_natCast, if_pos (by omega)]
      rfl
    · rw [List.reverse_replicate, vB_replicate]
      simp [vB]
    · rw [List.reverse_replicate, rd_replicate]
end Go.Proofs.YtohkmnbnjacfaaaN
set_option linter.unusedVariables false
namespace Go.Proofs.YtohkmnbnjacfaaaN
open Go.RowKit Go.Proofs.Ytohkmnbnjacfaaa.All Go.Proofs.YtohkmnbnjacfaaaW.PrintWords Go.Proofs.YtohkmnbnjacfaaaW.PrintLast Go.Proofs.YtohkmnbnjacfaaaW.PrintMore
theorem mul_range {a b A B : Int} (a0 : 0 ≤ a) (a1 : a ≤ A) (b0 : 0 ≤ b) (b1 : b ≤ B) : 0 ≤ a * b ∧ a * b ≤ A * B :=
  ⟨Int.mul_nonneg a0 b0, Int.le_trans (Int.mul_le_mul_of_nonneg_left b1 a0) (Int.mul_le_mul_of_nonneg_right a1 (by omega))⟩
theorem and_low {x : Int} (h0 : 0 ≤ x) (h1 : x < B64) : Go.bits .and .u64 x 4294967295 = x % 4294967296 :=
  bits_mask .u64 64 (by decide) wraps_u64 32 (by decide) x h0 (by simpa using h1)
theorem mul64_eq {x y : Int} (x0 : 0 ≤ x) (x1 : x < B64) (y0 : 0 ≤ y) (y1 : y < B64) : bits_Mul64.f x y = some (x * y / B64, x * y % B64) := by
  have x1' : x < 18446744073709551616 := x1
  have y1' : y < 18446744073709551616 := y1
  show bits_Mul64.f x y = some (x * y / 18446744073709551616, x * y % 18446744073709551616)
  obtain ⟨a, ha⟩ : ∃ a, a = x / 4294967296 := ⟨_, rfl⟩
  obtain ⟨b, hb⟩ : ∃ b, b = x % 4294967296 := ⟨_, rfl⟩
  obtain ⟨c, hc⟩ : ∃ c, c = y / 4294967296 := ⟨_, rfl⟩
  obtain ⟨d, hd⟩ : ∃ d, d = y % 4294967296 := ⟨_, rfl⟩
  have hx : x = a * 4294967296 + b := by omega
  have hy : y = c * 4294967296 + d := by omega
  have a0 : 0 ≤ a ∧ a ≤ 4294967295 := by omega
  have b0 : 0 ≤ b ∧ b ≤ 4294967295 := by omega
  have c0 : 0 ≤ c ∧ c ≤ 4294967295 := by omega
  have d0 : 0 ≤ d ∧ d ≤ 4294967295 := by omega
  have hac := mul_range a0.1 a0.2 c0.1 c0.2
  have had := mul_range a0.1 a0.2 d0.1 d0.2
  have hbc := mul_range b0.1 b0.2 c0.1 c0.2
  have hbd := mul_range b0.1 b0.2 d0.1 d0.2
  have hp : x * y = a * c * 18446744073709551616 + (a * d + b * c) * 4294967296 + b * d := by
    rw [hx, hy, Int.add_mul, Int.mul_add, Int.mul_add, Int.add_mul]
    have e1 : a * 4294967296 * (c * 4294967296) = a * c * 18446744073709551616 := by
      rw [Int.mul_assoc, Int.mul_left_comm 4294967296 c, Int.mul_assoc a c]
      congr 1
    have e2 : a * 4294967296 * d = a * d * 4294967296 := by rw [Int.mul_assoc, Int.mul_comm 4294967296 d, ← Int.mul_assoc]
    have e3 : b * (c * 4294967296) = b * c * 4294967296 := by rw [Int.mul_assoc]
    rw [e1, e2, e3]
    omega
  unfold bits_Mul64.f
  rw [and_low x0 x1, and_low y0 y1, ← ha, ← hb, ← hc, ← hd, hp]
  generalize hA : a * c = p at *
  generalize hD : a * d = q at *
  generalize hC : b * c = r at *
  generalize hE : b * d = s at *
  clear hA hD hC hE hp hx hy ha hb hc hd x0 x1 y0 y1 x1' y1'
  have h1 : (4294967295 : Int) * 4294967295 = 18446744065119617025 := rfl
  rw [h1] at *
  rw [u64 (x := s) (by omega) (by omega), u64 (x := q) (by omega) (by omega), u64 (x := q + s / 4294967296) (by omega) (by omega), and_low (x := q + s / 4294967296) (by omega) (by show _ < (18446744073709551616 : Int); omega),
    u64 (x := r) (by omega) (by omega), u64 (x := (q + s / 4294967296) % 4294967296 + r) (by omega) (by omega), u64 (x := p) (by omega) (by omega),
    u64 (x := p + (q + s / 4294967296) / 4294967296) (by omega) (by omega)]
  have e : p + (q + s / 4294967296) / 4294967296 + ((q + s / 4294967296) % 4294967296 + r) / 4294967296 = (p * 18446744073709551616 + (q + r) * 4294967296 + s) / 18446744073709551616 := by omega
  rw [e, u64 (x := (p * 18446744073709551616 + (q + r) * 4294967296 + s) / 18446744073709551616) (by clear e; omega) (by clear e; omega), u64_mod]
theorem add64_eq {x y c : Int} (x0 : 0 ≤ x) (y0 : 0 ≤ y) (c0 : 0 ≤ c) (c1 : c ≤ 1) : bits_Add64.f x y c = some ((x + y + c) % B64, (x + y + c) / B64) := by
  unfold bits_Add64.f
  rw [if_pos ⟨x0, y0, c0, c1⟩]
theorem sub64_eq {x y c : Int} (x0 : 0 ≤ x) (x1 : x < B64) (y0 : 0 ≤ y) (y1 : y < B64) (c0 : 0 ≤ c) (c1 : c ≤ 1) : ∃ d e, bits_Sub64.f x y c = some (d, e) ∧ 0 ≤ d ∧ d < B64 ∧ 0 ≤ e ∧ e ≤ 1 ∧ d = x - y - c + B64 * e := by
  have x1' : x < 18446744073709551616 := x1
  have y1' : y < 18446744073709551616 := y1
  unfold bits_Sub64.f
  rw [if_pos ⟨x0, y0, by omega, c0, c1⟩]
  refine ⟨_, _, rfl, Int.emod_nonneg _ (by decide), Int.emod_lt_of_pos _ (by decide), ?_, ?_, ?_⟩
  · split <;> decide
  · split <;> decide
  · show (x - y - c) % 18446744073709551616 = x - y - c + 18446744073709551616 * _
    split <;> omega
theorem mul_add {x y o c : Int} (x0 : 0 ≤ x) (x1 : x < B64) (y0 : 0 ≤ y) (y1 : y < B64) (o0 : 0 ≤ o) (o1 : o < B64) (c0 : 0 ≤ c) (c1 : c < B64) :
    IntKind.u64.wrap (IntKind.u64.wrap (x * y / B64 + (x * y % B64 + o + 0) / B64) + ((x * y % B64 + o + 0) % B64 + c + 0) / B64) = (x * y + o + c) / B64 ∧ ((x * y % B64 + o + 0) % B64 + c + 0) % B64 = (x * y + o + c) % B64 ∧ 0 ≤ (x * y + o + c) / B64 ∧ (x * y + o + c) / B64 < B64 := by
  have x1' : x < 18446744073709551616 := x1
  have y1' : y < 18446744073709551616 := y1
  have o1' : o < 18446744073709551616 := o1
  have c1' : c < 18446744073709551616 := c1
  have hp := mul_range x0 (show x ≤ 18446744073709551615 by omega) y0 (show y ≤ 18446744073709551615 by omega)
  have h1 : (18446744073709551615 : Int) * 18446744073709551615 = 340282366920938463426481119284349108225 := rfl
  rw [h1] at hp
  show IntKind.u64.wrap (IntKind.u64.wrap (x * y / 18446744073709551616 + (x * y % 18446744073709551616 + o + 0) / 18446744073709551616) + ((x * y % 18446744073709551616 + o + 0) % 18446744073709551616 + c + 0) / 18446744073709551616) = (x * y + o + c) / 18446744073709551616 ∧ ((x * y % 18446744073709551616 + o + 0) % 18446744073709551616 + c + 0) % 18446744073709551616 = (x * y + o + c) % 18446744073709551616 ∧ 0 ≤ (x * y + o + c) / 18446744073709551616 ∧ (x * y + o + c) / 18446744073709551616 < 18446744073709551616
  generalize x * y = p at *
  clear x0 x1 x1' y0 y1 y1' o1 c1 h1
  have a1 : 0 ≤ p / 18446744073709551616 + (p % 18446744073709551616 + o + 0) / 18446744073709551616 ∧ p / 18446744073709551616 + (p % 18446744073709551616 + o + 0) / 18446744073709551616 < 18446744073709551616 := by omega
  rw [u64 a1.1 a1.2]
  have a2 : p / 18446744073709551616 + (p % 18446744073709551616 + o + 0) / 18446744073709551616 + ((p % 18446744073709551616 + o + 0) % 18446744073709551616 + c + 0) / 18446744073709551616 = (p + o + c) / 18446744073709551616 := by omega
  have a3 : 0 ≤ (p + o + c) / 18446744073709551616 ∧ (p + o + c) / 18446744073709551616 < 18446744073709551616 := by omega
  rw [a2, u64 a3.1 a3.2]
  refine ⟨rfl, by omega, a3.1, a3.2⟩
theorem take_succ (B : Int) (l : List Int) (i : Nat) : vB B (l.take (i + 1)) = vB B (l.take i) + B ^ i * rd l (i : Int) := by
  rcases Nat.lt_or_ge i l.length with h | h
  · exact vB_take_succ B l i h
  · rw [List.take_of_length_le (by omega), List.take_of_length_le h, rd_nat, List.getD_eq_getElem?_getD, List.getElem?_eq_none h]
    simp
theorem rd_far (l : List Int) (i : Nat) (h : l.length ≤ i) : rd l (i : Int) = 0 := by
  rw [rd_nat, List.getD_eq_getElem?_getD, List.getElem?_eq_none h]
  rfl
theorem vB_all (B : Int) (l : List Int) (i : Nat) (h : l.length ≤ i) : vB B (l.take i) = vB B l := by rw [List.take_of_length_le h]
def MulOut (a b out : List Int) (i : Nat) : Prop :=
  out.length = a.length + b.length ∧ Dig B64 out ∧ vB B64 out = vB B64 (a.take i) * vB B64 b ∧ ∀ j : Nat, i + b.length ≤ j → rd out (j : Int) = 0
def MulIn (a b out : List Int) (i j : Nat) (c : Int) : Prop :=
  out.length = a.length + b.length ∧ Dig B64 out ∧ (0 ≤ c ∧ c < B64) ∧ vB B64 out + B64 ^ (i + j) * c = vB B64 (a.take i) * vB B64 b + B64 ^ i * (rd a (i : Int) * vB B64 (b.take j)) ∧ ∀ n : Nat, i + b.length ≤ n → rd out (n : Int) = 0
theorem mul_in {a b out : List Int} {i j : Nat} {c : Int} (ha : Dig B64 a) (hb : Dig B64 b) (hi : i < a.length) (hj : j < b.length) (h : MulIn a b out i j c) :
    MulIn a b (out.set (i + j) ((rd a (i : Int) * rd b (j : Int) + rd out ((i + j : Nat) : Int) + c) % B64)) i (j + 1) ((rd a (i : Int) * rd b (j : Int) + rd out ((i + j : Nat) : Int) + c) / B64) := by
  obtain ⟨hl, hd, hc, hv, hz⟩ := h
  obtain ⟨x0, x1⟩ := Dig_rd ha i hi
  obtain ⟨y0, y1⟩ := Dig_rd hb j hj
  obtain ⟨o0, o1⟩ := Dig_rd hd (i + j) (by omega)
  obtain ⟨-, -, n0, n1⟩ := mul_add x0 x1 y0 y1 o0 o1 hc.1 hc.2
  refine ⟨by rw [List.length_set]; exact hl, Dig_set hd _ (Int.emod_nonneg _ (by decide)) (Int.emod_lt_of_pos _ (by decide)), ⟨n0, n1⟩, ?_, fun n hn => ?_⟩
  · rw [vB_set _ _ _ _ (by omega), take_succ, ← Nat.add_assoc, Int.pow_succ]
    have e := Int.emod_add_mul_ediv (rd a (i : Int) * rd b (j : Int) + rd out ((i + j : Nat) : Int) + c) B64
    generalize (rd a (i : Int) * rd b (j : Int) + rd out ((i + j : Nat) : Int) + c) / B64 = q at *
    generalize (rd a (i : Int) * rd b (j : Int) + rd out ((i + j : Nat) : Int) + c) % B64 = r at *
    have er : r = rd a (i : Int) * rd b (j : Int) + rd out ((i + j : Nat) : Int) + c - B64 * q := by omega
    rw [er]
    have ep : (B64 : Int) ^ (i + j) = B64 ^ i * B64 ^ j := Int.pow_add _ _ _
    rw [ep] at hv ⊢
    clear ep
    generalize vB B64 out = V at *
    generalize vB B64 (List.take i a) * vB B64 b = W at *
    generalize vB B64 (List.take j b) = U at *
    generalize (B64 : Int) ^ i = P at *
    generalize (B64 : Int) ^ j = Q at *
    generalize rd a (i : Int) = x at *
    generalize rd b (j : Int) = y at *
    generalize rd out ((i + j : Nat) : Int) = o at *
    have e1 : P * Q * (x * y + o + c - B64 * q - o) = P * Q * (x * y) + P * Q * c - P * Q * B64 * q := by
      rw [show x * y + o + c - B64 * q - o = x * y + c - B64 * q by omega, Int.mul_sub, Int.mul_add, Int.mul_assoc (P * Q) B64 q]
    have e2 : P * (x * (U + Q * y)) = P * (x * U) + P * Q * (x * y) := by
      rw [Int.mul_add x, Int.mul_add P, Int.mul_left_comm x Q y, Int.mul_assoc P Q]
    rw [e1, e2]
    omega
  · rw [rd_set_ne _ _ _ _ (by omega)]
    exact hz n hn
theorem mulWords_l1 (a b : List Int) (ha : Dig B64 a) (hb : Dig B64 b) (la : a.length ≤ 1099511627776) (lb : b.length ≤ 1099511627776) (i : Nat) (hi : i < a.length) (r : List Int)
    (next : ∀ out, MulOut a b out (i + 1) → Ev (fun k => exact_mulWords.l0 k b out a (a.length : Int) ((i + 1 : Nat) : Int)) r) : ∀ (d j : Nat) (out : List Int) (c : Int), j + d = b.length → MulIn a b out i j c →
    Ev (fun k => exact_mulWords.l1 k b out (i : Int) (rd a (i : Int)) c a (a.length : Int) (i : Int) b (b.length : Int) (j : Int)) r := by
  intro d
  induction d with
  | zero =>
    intro j out c hj h
    have hj : j = b.length := by omega
    subst hj
    have hl := h.1
    have c1 : i + b.length < out.length := by omega
    have c2 : ((i + b.length : Nat) : Int) < (out.length : Int) := Int.ofNat_lt.2 c1
    have e1 : wrap64 ((i : Int) + (b.length : Int)) = ((i + b.length : Nat) : Int) := by rw [w64 (by omega) (by omega)]; omega
    have e2 : wrap64 ((i : Int) + 1) = ((i + 1 : Nat) : Int) := by clear e1; rw [w64 (by omega) (by omega)]; omega
    obtain ⟨-, hd, hc, hv, hz⟩ := h
    refine Ev.step (f := fun k => exact_mulWords.l0 k b (out.set (i + b.length) c) a (a.length : Int) ((i + 1 : Nat) : Int)) (fun k => ?_) (next _ ⟨by rw [List.length_set]; exact hl, Dig_set hd _ hc.1 hc.2, ?_, fun j hj => ?_⟩)
    · simp only [exact_mulWords.l1, e1, e2]
      rw [if_neg (Int.lt_irrefl _), if_pos (Int.natCast_nonneg _), if_pos c2, Int.toNat_natCast]
    · rw [vB_set _ _ _ _ c1, hz _ (Nat.le_refl _), Int.sub_zero, hv, take_succ, vB_all _ _ _ (Nat.le_refl _), Int.add_mul, Int.mul_assoc]
    · rw [rd_set_ne _ _ _ _ (by clear hv e1 e2; omega)]
      exact hz j (by clear hv e1 e2; omega)
  | succ d ih =>
    intro j out c hj h
    have hj' : j < b.length := by omega
    have hn := mul_in ha hb hi hj' h
    have hl := h.1
    have c1 : i + j < out.length := by omega
    have c2 : ((i + j : Nat) : Int) < (out.length : Int) := Int.ofNat_lt.2 c1
    have c3 : (j : Int) < (b.length : Int) := Int.ofNat_lt.2 hj'
    have c4 : j + 1 + d = b.length := by omega
    have e1 : wrap64 ((i : Int) + (j : Int)) = ((i + j : Nat) : Int) := by rw [w64 (by omega) (by omega)]; omega
    have e2 : wrap64 ((j : Int) + 1) = ((j + 1 : Nat) : Int) := by clear e1; rw [w64 (by omega) (by omega)]; omega
    obtain ⟨-, hd, hc, -, -⟩ := h
    obtain ⟨x0, x1⟩ := Dig_rd ha i hi
    obtain ⟨y0, y1⟩ := Dig_rd hb j hj'
    obtain ⟨o0, o1⟩ := Dig_rd hd (i + j) c1
    obtain ⟨m0, m1, -, -⟩ := mul_add x0 x1 y0 y1 o0 o1 hc.1 hc.2
    have a1 := mul64_eq x0 x1 y0 y1
    have a2 := add64_eq (Int.emod_nonneg (rd a (i : Int) * rd b (j : Int)) (show (B64 : Int) ≠ 0 by decide)) o0 (Int.le_refl 0) (by decide)
    have a3 := add64_eq (Int.emod_nonneg (rd a (i : Int) * rd b (j : Int) % B64 + rd out ((i + j : Nat) : Int) + 0) (show (B64 : Int) ≠ 0 by decide)) hc.1 (Int.le_refl 0) (by decide)
    refine Ev.step (f := fun k => exact_mulWords.l1 k b (out.set (i + j) ((rd a (i : Int) * rd b (j : Int) + rd out ((i + j : Nat) : Int) + c) % B64)) (i : Int) (rd a (i : Int)) ((rd a (i : Int) * rd b (j : Int) + rd out ((i + j : Nat) : Int) + c) / B64) a (a.length : Int) (i : Int) b (b.length : Int) ((j + 1 : Nat) : Int)) (fun k => ?_) (ih (j + 1) _ _ c4 hn)
    simp only [exact_mulWords.l1, e1, e2]
    rw [if_pos c3, if_pos (Int.natCast_nonneg _), if_pos c3, a1, Option.bind_some, if_pos (Int.natCast_nonneg _), if_pos c2, a2, Option.bind_some, a3, Option.bind_some, m0, m1, Int.toNat_natCast]
theorem mulWords_l0 (a b : List Int) (ha : Dig B64 a) (hb : Dig B64 b) (la : a.length ≤ 1099511627776) (lb : b.length ≤ 1099511627776) : ∀ (d i : Nat) (out : List Int), i + d = a.length → MulOut a b out i →
    Ev (fun k => exact_mulWords.l0 k b out a (a.length : Int) (i : Int)) (d64 (vB B64 a * vB B64 b).toNat) := by
  intro d
  induction d with
  | zero =>
    intro i out hi h
    have hi : i = a.length := by omega
    subst hi
    obtain ⟨hl, hd, hv, hz⟩ := h
    rw [vB_all _ _ _ (Nat.le_refl _)] at hv
    refine Ev.step (f := fun k => (exact_trim.f k out).bind fun t => some t) (fun k => ?_) (Ev.bind (trim_ev hd (by omega)) ?_)
    · simp only [exact_mulWords.l0]
      rw [if_neg (Int.lt_irrefl _)]
    · rw [hv]
      exact Ev.now _
  | succ d ih =>
    intro i out hi h
    have hi' : i < a.length := by omega
    have c1 : (i : Int) < (a.length : Int) := Int.ofNat_lt.2 hi'
    obtain ⟨hl, hd, hv, hz⟩ := h
    refine Ev.step (f := fun k => exact_mulWords.l1 k b out (i : Int) (rd a (i : Int)) 0 a (a.length : Int) (i : Int) b (b.length : Int) ((0 : Nat) : Int)) (fun k => ?_) (mulWords_l1 a b ha hb la lb i hi' _ (fun out' h' => ih (i + 1) out' (by omega) h') b.length 0 out 0 (by omega) ⟨hl, hd, ⟨by decide, by decide⟩, ?_, hz⟩)
    · simp only [exact_mulWords.l0]
      rw [if_pos c1, if_pos (Int.natCast_nonneg _), if_pos c1]
      rfl
    · rw [hv]
      simp [vB]
theorem mulWords_ev {a b : List Int} (ha : Dig B64 a) (hb : Dig B64 b) (la : a.length ≤ 1099511627776) (lb : b.length ≤ 1099511627776) : Ev (fun k => exact_mulWords.f k a b) (d64 (vB B64 a * vB B64 b).toNat) := by
  have e1 : wrap64 ((a.length : Int) + (b.length : Int)) = ((a.length + b.length : Nat) : Int) := by rw [w64 (by omega) (by omega)]; omega
  refine Ev.congr (f := fun k => exact_mulWords.l0 k b (List.replicate (a.length + b.length) 0) a (a.length : Int) ((0 : Nat) : Int)) (fun k => ?_) (mulWords_l0 a b ha hb la lb a.length 0 _ (by omega) ⟨by simp, Dig_replicate (by decide) _, ?_, fun j _ => rd_replicate _ _⟩)
  · unfold exact_mulWords.f
    rw [e1, if_pos (Int.natCast_nonneg _), Int.toNat_natCast, if_pos (by omega)]
    rfl
  · rw [vB_replicate]
    simp [vB]
theorem mulWords_d64 {m n : Nat} (lm : (d64 m).length ≤ 1099511627776) (ln : (d64 n).length ≤ 1099511627776) : Ev (fun k => exact_mulWords.f k (d64 m) (d64 n)) (d64 (m * n)) := by
  have := mulWords_ev (d64_dig m) (d64_dig n) lm ln
  rw [d64_val, d64_val] at this
  rwa [show ((m : Int) * (n : Int)).toNat = m * n by rw [← Int.natCast_mul, Int.toNat_natCast]] at this
end Go.Proofs.YtohkmnbnjacfaaaN
set_option linter.unusedVariables false
namespace Go.Proofs.YtohkmnbnjacfaaaN
open Go.RowKit Go.Proofs.Ytohkmnbnjacfaaa.All Go.Proofs.YtohkmnbnjacfaaaW.PrintWords Go.Proofs.YtohkmnbnjacfaaaW.PrintLast Go.Proofs.YtohkmnbnjacfaaaW.PrintMore
theorem size_mono {m n : Nat} (h : m ≤ n) : (nat m).size ≤ (nat n).size := nat_size_le.2 (Nat.lt_of_le_of_lt h (nat_lt_size n))
theorem size_mul {m n : Nat} : (nat (m * n)).size ≤ (nat m).size + (nat n).size := by
  apply nat_size_le.2
  rw [Nat.pow_add]
  have h1 := nat_lt_size m
  have h2 := nat_lt_size n
  exact Nat.lt_of_le_of_lt (Nat.mul_le_mul_right _ (Nat.le_of_lt h1)) (Nat.mul_lt_mul_of_pos_left h2 (Nat.lt_of_le_of_lt (Nat.zero_le _) h1))
theorem words_len (n : Nat) : (d64 n).length ≤ ((nat n).size + 7) / 8 := by
  apply dgs_len
  have h1 := nat_lt_size n
  have h2 : 256 ^ (nat n).size ≤ 256 ^ (8 * (((nat n).size + 7) / 8)) := Nat.pow_le_pow_right (by decide) (by omega)
  rw [Nat.pow_mul] at h2
  exact Nat.lt_of_lt_of_le h1 h2
def AddOut (x y out : List Int) (i : Nat) (c : Int) : Prop :=
  out.length = x.length + 1 ∧ Dig B64 out ∧ (0 ≤ c ∧ c ≤ 1) ∧ vB B64 out + B64 ^ i * c = vB B64 (x.take i) + vB B64 (y.take i) ∧ ∀ n : Nat, i ≤ n → rd out (n : Int) = 0
theorem add_range {x y c : Int} (x0 : 0 ≤ x) (x1 : x < B64) (y0 : 0 ≤ y) (y1 : y < B64) (c0 : 0 ≤ c) (c1 : c ≤ 1) : 0 ≤ (x + y + c) / B64 ∧ (x + y + c) / B64 ≤ 1 := by
  have x1' : x < 18446744073709551616 := x1
  have y1' : y < 18446744073709551616 := y1
  show 0 ≤ (x + y + c) / 18446744073709551616 ∧ (x + y + c) / 18446744073709551616 ≤ 1
  omega
theorem add_out {x y out : List Int} {i : Nat} {c : Int} (hx : Dig B64 x) (hy : Dig B64 y) (hi : i < x.length) (h : AddOut x y out i c) :
    AddOut x y (out.set i ((rd x (i : Int) + rd y (i : Int) + c) % B64)) (i + 1) ((rd x (i : Int) + rd y (i : Int) + c) / B64) := by
  obtain ⟨hl, hd, hc, hv, hz⟩ := h
  obtain ⟨x0, x1⟩ := Dig_rd hx i hi
  obtain ⟨y0, y1⟩ := Dig_rd0 (by decide) hy i
  refine ⟨by rw [List.length_set]; exact hl, Dig_set hd _ (Int.emod_nonneg _ (by decide)) (Int.emod_lt_of_pos _ (by decide)), add_range x0 x1 y0 y1 hc.1 hc.2, ?_, fun n hn => ?_⟩
  · rw [vB_set _ _ _ _ (by clear hv; omega), hz _ (Nat.le_refl _), Int.sub_zero, take_succ, take_succ, Int.pow_succ]
    have e := Int.emod_add_mul_ediv (rd x (i : Int) + rd y (i : Int) + c) B64
    generalize (rd x (i : Int) + rd y (i : Int) + c) / B64 = q at *
    generalize (rd x (i : Int) + rd y (i : Int) + c) % B64 = r at *
    have er : r = rd x (i : Int) + rd y (i : Int) + c - B64 * q := by clear hv; omega
    rw [er, Int.mul_sub, Int.mul_add, Int.mul_add, Int.mul_assoc (B64 ^ i) B64 q]
    generalize (B64 : Int) ^ i = P at *
    omega
  · rw [rd_set_ne _ _ _ _ (by clear hv; omega)]
    exact hz n (by clear hv; omega)
theorem NatAdd_l0 (x y : List Int) (hx : Dig B64 x) (hy : Dig B64 y) (lx : x.length ≤ 1099511627775) (hyx : y.length ≤ x.length) (n : Nat) (hn : vB B64 x + vB B64 y = n) : ∀ (d i : Nat) (out : List Int) (c : Int), i + d = x.length → AddOut x y out i c →
    Ev (fun k => exact_NatAdd.l0 k x y out c (x.length : Int) (i : Int)) (nat n) := by
  intro d
  induction d with
  | zero =>
    intro i out c hi h
    have hi : i = x.length := by omega
    subst hi
    have hl := h.1
    have c1 : (x.length : Int) < (out.length : Int) := by omega
    have c2 : x.length < out.length := by omega
    have c3 : out.length ≤ 1099511627776 := by omega
    obtain ⟨-, hd, hc, hv, hz⟩ := h
    have hd' : Dig B64 (out.set x.length c) := Dig_set hd _ hc.1 (by have := hc.2; exact Int.lt_of_le_of_lt this (by decide))
    have hv' : vB B64 (out.set x.length c) = n := by
      rw [vB_set _ _ _ _ c2, hz _ (Nat.le_refl _), Int.sub_zero, hv, vB_all _ _ _ (Nat.le_refl _), vB_all _ _ _ hyx, hn]
    have := pack_ev hd' (by rw [List.length_set]; exact c3)
    rw [hv', Int.toNat_natCast] at this
    refine Ev.step (f := fun k => (exact_pack.f k (out.set x.length c)).bind fun t => some t) (fun k => ?_) (Ev.bind this (Ev.now _))
    simp only [exact_NatAdd.l0]
    rw [if_neg (Int.lt_irrefl _), if_pos (Int.natCast_nonneg _), if_pos c1, Int.toNat_natCast]
  | succ d ih =>
    intro i out c hi h
    have hi' : i < x.length := by omega
    have c0 : i + 1 + d = x.length := by omega
    have c1 : (i : Int) < (x.length : Int) := Int.ofNat_lt.2 hi'
    have hl := h.1
    have c2 : (i : Int) < (out.length : Int) := by omega
    have c3 : ¬ (i : Int) < (y.length : Int) → rd y (i : Int) = 0 := fun h => rd_far y i (by omega)
    have e1 : wrap64 ((i : Int) + 1) = ((i + 1 : Nat) : Int) := by clear c3; rw [w64 (by omega) (by omega)]; omega
    have hn' := add_out hx hy hi' h
    obtain ⟨-, hd, hc, -, -⟩ := h
    obtain ⟨x0, x1⟩ := Dig_rd hx i hi'
    obtain ⟨y0, y1⟩ := Dig_rd0 (by decide) hy i
    have ea := add64_eq x0 y0 hc.1 hc.2
    refine Ev.step (f := fun k => exact_NatAdd.l0 k x y (out.set i ((rd x (i : Int) + rd y (i : Int) + c) % B64)) ((rd x (i : Int) + rd y (i : Int) + c) / B64) (x.length : Int) ((i + 1 : Nat) : Int)) (fun k => ?_) (ih (i + 1) _ _ c0 hn')
    simp only [exact_NatAdd.l0, e1]
    rw [if_pos c1]
    by_cases hy' : (i : Int) < (y.length : Int)
    · rw [if_pos hy', if_pos (Int.natCast_nonneg _), if_pos c1, ea, Option.bind_some, if_pos c2, Int.toNat_natCast]
    · rw [c3 hy'] at ea
      rw [if_neg hy', if_pos (Int.natCast_nonneg _), if_pos c1, ea, Option.bind_some, if_pos c2, Int.toNat_natCast, c3 hy']
theorem NatAdd_j0 {m n : Nat} (hm : (d64 m).length ≤ 1099511627775) (h : (d64 n).length ≤ (d64 m).length) : Ev (fun k => exact_NatAdd.j0 k (d64 m) (d64 n)) (nat (m + n)) := by
  have e1 : wrap64 (((d64 m).length : Int) + 1) = (((d64 m).length + 1 : Nat) : Int) := by rw [w64 (by omega) (by omega)]; omega
  refine Ev.step (f := fun k => exact_NatAdd.l0 k (d64 m) (d64 n) (List.replicate ((d64 m).length + 1) 0) 0 ((d64 m).length : Int) ((0 : Nat) : Int)) (fun k => ?_) (NatAdd_l0 (d64 m) (d64 n) (d64_dig m) (d64_dig n) hm h (m + n) (by rw [d64_val, d64_val, Int.natCast_add]) (d64 m).length 0 _ _ (Nat.zero_add _) ⟨by simp, Dig_replicate (by decide) _, ⟨by decide, by decide⟩, ?_, fun j _ => rd_replicate _ _⟩)
  · simp only [exact_NatAdd.j0, e1]
    rw [if_pos (Int.natCast_nonneg _), Int.toNat_natCast, if_pos (by omega)]
    rfl
  · rw [vB_replicate]
    simp [vB]
theorem NatAdd_ev {m n : Nat} (hm : (nat m).size ≤ 1099511627776) (hn : (nat n).size ≤ 1099511627776) : Ev (fun k => exact_NatAdd.f k (nat m) (nat n)) (nat (m + n)) := by
  have lm := words_len m
  have ln := words_len n
  refine Ev.bind (f := fun k t318 => (exact_words.f k (nat n)).bind fun t321 => (if (t318.length : Int) < (t321.length : Int) then (exact_NatAdd.j0 k t321 t318) else (exact_NatAdd.j0 k t318 t321))) (words_nat hm) (Ev.bind (words_nat hn) ?_)
  by_cases h : ((d64 m).length : Int) < ((d64 n).length : Int)
  · refine Ev.congr (f := fun k => exact_NatAdd.j0 k (d64 n) (d64 m)) (fun k => if_pos h) ?_
    rw [Nat.add_comm m n]
    exact NatAdd_j0 (by omega) (by omega)
  · refine Ev.congr (f := fun k => exact_NatAdd.j0 k (d64 m) (d64 n)) (fun k => if_neg h) ?_
    exact NatAdd_j0 (by omega) (by omega)
theorem d64_len_mono {m n : Nat} (h : m ≤ n) : (d64 m).length ≤ (d64 n).length := dgs_len (Nat.lt_of_le_of_lt h (dgs_lt 18446744073709551614 n))
theorem NatMul_ev {m n : Nat} (hm : (nat m).size ≤ 1099511627776) (hn : (nat n).size ≤ 1099511627776) : Ev (fun k => exact_NatMul.f k (nat m) (nat n)) (nat (m * n)) := by
  have lm := words_len m
  have ln := words_len n
  have hl : (d64 (m * n)).length ≤ 1099511627776 := by
    have h1 := words_len (m * n)
    have h2 := size_mul (m := m) (n := n)
    omega
  refine Ev.bind (f := fun k t422 => (exact_words.f k (nat n)).bind fun t425 => ((exact_mulWords.f k t422 t425).bind fun t428 => ((exact_pack.f k t428).bind fun t431 => (some t431)))) (words_nat hm) (Ev.bind (f := fun k t425 => ((exact_mulWords.f k (d64 m) t425).bind fun t428 => ((exact_pack.f k t428).bind fun t431 => (some t431)))) (words_nat hn) (Ev.bind (f := fun k t428 => ((exact_pack.f k t428).bind fun t431 => (some t431))) (mulWords_d64 (by omega) (by omega)) ?_))
  have := pack_ev (d64_dig (m * n)) hl
  rw [d64_val, Int.toNat_natCast] at this
  exact Ev.bind this (Ev.now _)
def cmpN (m n : Nat) : Int := if m < n then -1 else if m = n then 0 else 1
def chk (s : ByteArray) : Int := if 0 < s.size ∧ bt s 0 = 0 then 1 else if 1024 < s.size then 4 else 0
theorem Check_ev (s : ByteArray) : Ev (fun k => natural_Check.f k s) (chk s) := by
  have hj : ∀ b : Bool, (b = true ↔ 0 < s.size ∧ bt s 0 = 0) → Ev (fun k => natural_Check.j0 k s b) (chk s) := by
    intro b hb
    refine Ev.step (f := fun _ => some (chk s)) (fun k => ?_) (Ev.now _)
    unfold chk
    simp only [natural_Check.j0]
    by_cases h : b = true
    · rw [if_pos h, if_pos (hb.1 h)]
    · rw [if_neg h, if_neg (fun h' => h (hb.2 h'))]
      by_cases h3 : 1024 < s.size
      · rw [if_pos (by omega), if_pos h3]
      · rw [if_neg (by omega), if_neg h3]
  by_cases h : 0 < s.size
  · refine Ev.congr (f := fun k => natural_Check.j0 k s (bt s 0 == 0)) (fun k => ?_) (hj _ (by simp [h]))
    unfold natural_Check.f
    rw [if_pos (by omega), if_pos (by omega)]
  · refine Ev.congr (f := fun k => natural_Check.j0 k s false) (fun k => ?_) (hj _ (by simp [h]))
    unfold natural_Check.f
    rw [if_neg (by omega)]
theorem chk_nat {n : Nat} (h : (nat n).size ≤ 1024) : chk (nat n) = 0 := by
  unfold chk
  rw [if_neg, if_neg (by omega)]
  rintro ⟨h1, h2⟩
  rcases nat_wf n with h3 | h3
  · omega
  · exact h3 h2
theorem chk_zero {s : ByteArray} (h : chk s = 0) : s = nat (bval s).toNat ∧ s.size ≤ 1024 := by
  unfold chk at h
  by_cases h1 : 0 < s.size ∧ bt s 0 = 0
  · rw [if_pos h1] at h; omega
  · rw [if_neg h1] at h
    refine ⟨wf_nat ?_, ?_⟩
    · rcases Nat.eq_zero_or_pos s.size with h2 | h2
      · exact Or.inl h2
      · exact Or.inr (fun h3 => h1 ⟨h2, h3⟩)
    · rcases Nat.lt_or_ge 1024 s.size with h2 | h2
      · rw [if_pos h2] at h; omega
      · exact h2
def firstErr : List ByteArray → Int
  | [] => 0
  | s :: l => if chk s = 0 then firstErr l else chk s
theorem first_l0 (l : List ByteArray) (hl : l.length < 9223372036854775808) : ∀ (d i : Nat), i + d = l.length → Ev (fun k => natural_first.l0 k l (l.length : Int) (i : Int)) (firstErr (l.drop i)) := by
  intro d
  induction d with
  | zero =>
    intro i hi
    rw [List.drop_of_length_le (by omega)]
    refine Ev.step (f := fun _ => some 0) (fun k => ?_) (Ev.now _)
    simp only [natural_first.l0]
    rw [if_neg (by omega)]
  | succ d ih =>
    intro i hi
    have hi' : i < l.length := by omega
    have e1 : wrap64 ((i : Int) + 1) = ((i + 1 : Nat) : Int) := by rw [w64 (by omega) (by omega)]; omega
    have e2 : rdOf ByteArray.empty l (i : Int) = l[i] := by
      unfold rdOf
      rw [Int.toNat_natCast, List.getD_eq_getElem?_getD, List.getElem?_eq_getElem hi']
      rfl
    rw [List.drop_eq_getElem_cons hi', firstErr]
    refine Ev.step (f := fun k => (natural_Check.f k l[i]).bind fun t => if t = 0 then natural_first.l0 k l (l.length : Int) ((i + 1 : Nat) : Int) else some t) (fun k => ?_) (Ev.bind (Check_ev _) ?_)
    · simp only [natural_first.l0, e1, e2]
      rw [if_pos (by omega), if_pos (by omega), if_pos (by omega)]
    · by_cases h : chk l[i] = 0
      · rw [if_pos h]
        exact Ev.congr (fun k => if_pos h) (ih (i + 1) (by omega))
      · rw [if_neg h]
        exact Ev.congr (f := fun _ => some (chk l[i])) (fun k => if_neg h) (Ev.now _)
theorem first_ev (l : List ByteArray) (hl : l.length < 9223372036854775808) : Ev (fun k => natural_first.f k l) (firstErr l) := first_l0 l hl l.length 0 (by omega)
theorem first1 (a : ByteArray) : Ev (fun k => natural_first.f k [a]) (chk a) := by
  have := first_ev [a] (by simp)
  rwa [show firstErr [a] = chk a by unfold firstErr firstErr; split <;> simp_all] at this
def bnd (n : Nat) : ByteArray × Int := if 1024 < (nat n).size then (⟨#[]⟩, 4) else (nat n, 0)
theorem bounded_eq (n : Nat) : natural_bounded.f (nat n) = some (bnd n) := by
  unfold natural_bounded.f bnd
  by_cases h : 1024 < (nat n).size
  · rw [if_pos (by omega), if_pos h]
  · rw [if_neg (by omega), if_neg h]
theorem bnd_ok {n : Nat} (h : (nat n).size ≤ 1024) : bnd n = (nat n, 0) := by
  unfold bnd
  rw [if_neg (by omega)]
end Go.Proofs.YtohkmnbnjacfaaaN
set_option linter.unusedVariables false
namespace Go.Proofs.YtohkmnbnjacfaaaN
open Go.RowKit Go.Proofs.Ytohkmnbnjacfaaa.All Go.Proofs.YtohkmnbnjacfaaaW.PrintWords Go.Proofs.YtohkmnbnjacfaaaW.PrintLast Go.Proofs.YtohkmnbnjacfaaaW.PrintMore
theorem ev_some {α β : Type} {o : Option α} {f : Nat → α → Option β} {a : α} {r : β} (h : o = some a) (k : Ev (fun n => f n a) r) : Ev (fun n => o.bind (f n)) r := by subst h; exact k
theorem awake_ev : Ev (fun k => galoislaw01_awake.f k) true := Ev.of (fun k => galoislaw01_awake.mono k) (k := 60) (by decide +kernel)
theorem refCheck_eq (s : ByteArray) : galoisref01_Check.f s = some (chk s) := by
  have hv : galoisref01_Valid.f s = some (decide (s.size = 0 ∨ bt s 0 ≠ 0)) := by
    unfold galoisref01_Valid.f
    by_cases h : s.size = 0
    · rw [if_pos (toList_nil.2 h)]
      simp [h]
    · rw [if_neg (fun h' => h (toList_nil.1 h')), if_pos (by omega)]
      by_cases h2 : bt s 0 = 0 <;> simp [h, h2]
  unfold galoisref01_Check.f
  rw [hv, Option.bind_some]
  unfold chk galoisref01_Fits.f
  by_cases h : s.size = 0 ∨ bt s 0 ≠ 0
  · have hn : ¬ (0 < s.size ∧ bt s 0 = 0) := by
      intro h1
      rcases h with h | h
      · exact Nat.ne_of_gt h1.1 h
      · exact h h1.2
    rw [if_pos (decide_eq_true h), if_neg hn]
    by_cases h3 : 1024 < s.size
    · rw [if_pos (show (s.size : Int) > 1024 by omega), if_pos h3]
      rfl
    · rw [if_neg (show ¬ (s.size : Int) > 1024 by omega), if_neg h3]
      rfl
  · have hn : 0 < s.size ∧ bt s 0 = 0 := by
      refine ⟨Nat.pos_of_ne_zero fun h1 => h (Or.inl h1), ?_⟩
      rcases Decidable.em (bt s 0 = 0) with h2 | h2
      · exact h2
      · exact absurd (Or.inr h2) h
    rw [if_neg (by rw [decide_eq_true_eq]; exact h), if_pos hn]
theorem number {s : ByteArray} (h : chk s = 0) : ∃ n, s = nat n ∧ (nat n).size ≤ 1024 := by
  obtain ⟨h1, h2⟩ := chk_zero h
  exact ⟨_, h1, by rw [← h1]; exact h2⟩
end Go.Proofs.YtohkmnbnjacfaaaN
set_option linter.unusedVariables false
namespace Go.Proofs.YtohkmnbnjacfaaaN
open Go.RowKit Go.Proofs.Ytohkmnbnjacfaaa.All Go.Proofs.YtohkmnbnjacfaaaW.PrintWords Go.Proofs.YtohkmnbnjacfaaaW.PrintLast Go.Proofs.YtohkmnbnjacfaaaW.PrintMore
theorem shl_eq (x : Int) (s : Nat) (hs : s ≤ 64) : shl .u64 x (s : Int) = (x * 2 ^ s) % 18446744073709551616 := by
  unfold shl
  rw [Int.toNat_natCast, u64_mod, show min s IntKind.u64.bits = s from Nat.min_eq_left hs]
theorem shr_eq (x : Int) (s : Nat) (hs : s ≤ 64) : shr .u64 x (s : Int) = x / 2 ^ s := by
  unfold shr
  rw [Int.toNat_natCast, show min s IntKind.u64.bits = s from Nat.min_eq_left hs]
theorem norm_word {y : Int} (y0 : 0 < y) (y1 : y < B64) : ∃ s : Nat, s ≤ 63 ∧ bits_LeadingZeros64.f y = some (s : Int) ∧ 9223372036854775808 ≤ y * 2 ^ s ∧ y * 2 ^ s < 18446744073709551616 := by
  have y1' : y < 18446744073709551616 := y1
  obtain ⟨n, rfl⟩ := Int.eq_ofNat_of_zero_le (Int.le_of_lt y0)
  have hn : n < 2 ^ 64 := by omega
  obtain ⟨h1, h2, h3⟩ := Lib.bitLenAux_bounds 64 n hn (by omega)
  have h4 : Lib.bitLen n ≤ 64 := Lib.bitLen_le n 64 (by decide) hn
  have e : Lib.bitLenAux 64 n = Lib.bitLen n := rfl
  rw [e] at h1 h2 h3
  generalize hL : Lib.bitLen n = L at *
  refine ⟨64 - L, by omega, ?_, ?_, ?_⟩
  · unfold bits_LeadingZeros64.f bits_Len64.f
    rw [if_pos (by omega), Option.bind_some, Int.toNat_natCast, hL, w64 (by omega) (by omega)]
    congr 1
    omega
  · have h5 : 2 ^ (L - 1) * 2 ^ (64 - L) = 2 ^ 63 := by rw [← Nat.pow_add]; congr 1; omega
    have h6 := Nat.mul_le_mul_right (2 ^ (64 - L)) h2
    rw [h5] at h6
    have e1 : (n : Int) * 2 ^ (64 - L) = ((n * 2 ^ (64 - L) : Nat) : Int) := by rw [Int.natCast_mul, Int.natCast_pow]; rfl
    rw [e1]
    generalize n * 2 ^ (64 - L) = M at *
    omega
  · have h5 : 2 ^ L * 2 ^ (64 - L) = 2 ^ 64 := by rw [← Nat.pow_add]; congr 1; omega
    have h6 := Nat.mul_lt_mul_of_pos_right h3 (Nat.two_pow_pos (64 - L))
    rw [h5] at h6
    have e1 : (n : Int) * 2 ^ (64 - L) = ((n * 2 ^ (64 - L) : Nat) : Int) := by rw [Int.natCast_mul, Int.natCast_pow]; rfl
    rw [e1]
    generalize n * 2 ^ (64 - L) = M at *
    omega
def Half (y1 U Q q r : Int) : Prop := Q ≤ q ∧ q * y1 + r = U ∧ 0 ≤ r ∧ r < 4294967296 ∧ q ≤ 4294967297
theorem half_le {y1 y0 U u q r : Int} (hy : 0 < y1 * 4294967296 + y0) (he : q * y1 + r = U) (h : q * y0 ≤ 4294967296 * r + u) : q ≤ (U * 4294967296 + u) / (y1 * 4294967296 + y0) := by
  apply Int.le_ediv_of_mul_le hy
  have : q * (y1 * 4294967296 + y0) = q * y1 * 4294967296 + q * y0 := by rw [Int.mul_add, Int.mul_assoc]
  omega
theorem half_gt {y1 y0 U u q r : Int} (hy : 0 < y1 * 4294967296 + y0) (he : q * y1 + r = U) (h : 4294967296 * r + u < q * y0) : (U * 4294967296 + u) / (y1 * 4294967296 + y0) ≤ q - 1 := by
  have : (U * 4294967296 + u) / (y1 * 4294967296 + y0) < q := by
    apply Int.ediv_lt_of_lt_mul hy
    have : q * (y1 * 4294967296 + y0) = q * y1 * 4294967296 + q * y0 := by rw [Int.mul_add, Int.mul_assoc]
    omega
  omega
theorem half_lt {y1 y0 U u : Int} (hy : 0 < y1 * 4294967296 + y0) (hU : U < y1 * 4294967296 + y0) (u1 : u < 4294967296) : (U * 4294967296 + u) / (y1 * 4294967296 + y0) < 4294967296 := by
  apply Int.ediv_lt_of_lt_mul hy
  omega
theorem half_start {y1 y0 U u : Int} (h1 : 2147483648 ≤ y1) (h2 : y1 < 4294967296) (h3 : 0 ≤ y0) (h4 : y0 < 4294967296) (U0 : 0 ≤ U) (hU : U < y1 * 4294967296 + y0) (u0 : 0 ≤ u) (u1 : u < 4294967296) :
    Half y1 U ((U * 4294967296 + u) / (y1 * 4294967296 + y0)) (U / y1) (U % y1) ∧ 0 ≤ U / y1 := by
  have hy : 0 < y1 * 4294967296 + y0 := by omega
  have hQ0 : 0 ≤ (U * 4294967296 + u) / (y1 * 4294967296 + y0) := Int.ediv_nonneg (by omega) (by omega)
  have hq0 : 0 ≤ U / y1 := Int.ediv_nonneg U0 (by omega)
  have e := Int.emod_add_mul_ediv U y1
  have hr := Int.emod_lt_of_pos U (show 0 < y1 by omega)
  have hr0 := Int.emod_nonneg U (show y1 ≠ 0 by omega)
  refine ⟨⟨?_, by rw [Int.mul_comm]; omega, hr0, by omega, ?_⟩, hq0⟩
  · apply Int.le_ediv_of_mul_le (by omega)
    have h5 := Int.ediv_mul_le (U * 4294967296 + u) (show y1 * 4294967296 + y0 ≠ 0 by omega)
    generalize (U * 4294967296 + u) / (y1 * 4294967296 + y0) = Q at *
    rw [Int.mul_add, ← Int.mul_assoc] at h5
    have h6 := Int.mul_nonneg hQ0 h3
    omega
  · have : U / y1 < 4294967298 := by
      apply Int.ediv_lt_of_lt_mul (by omega)
      omega
    omega
theorem half_step {y1 y0 U u q r : Int} (h1 : 2147483648 ≤ y1) (h2 : y1 < 4294967296) (h3 : 0 ≤ y0) (h4 : y0 < 4294967296) (hU : U < y1 * 4294967296 + y0) (u0 : 0 ≤ u) (u1 : u < 4294967296)
    (h : Half y1 U ((U * 4294967296 + u) / (y1 * 4294967296 + y0)) q r) (ht : 4294967296 ≤ q ∨ 4294967296 * r + u < q * y0) :
    (4294967296 ≤ r + y1 → q - 1 = (U * 4294967296 + u) / (y1 * 4294967296 + y0)) ∧ (r + y1 < 4294967296 → Half y1 U ((U * 4294967296 + u) / (y1 * 4294967296 + y0)) (q - 1) (r + y1)) := by
  obtain ⟨a1, a2, a3, a4, a5⟩ := h
  have hy : 0 < y1 * 4294967296 + y0 := by omega
  have b1 : (U * 4294967296 + u) / (y1 * 4294967296 + y0) ≤ q - 1 := by
    rcases ht with ht | ht
    · have := half_lt hy hU u1
      omega
    · exact half_gt hy a2 ht
  have b2 : (q - 1) * y1 + (r + y1) = U := by rw [Int.sub_mul, Int.one_mul]; omega
  refine ⟨fun h5 => ?_, fun h5 => ⟨b1, b2, by omega, h5, by omega⟩⟩
  have h6 : (q - 1) * y0 ≤ 4294967296 * 4294967295 := by
    refine Int.le_trans (Int.mul_le_mul_of_nonneg_right (show q - 1 ≤ 4294967296 by omega) h3) ?_
    omega
  have b3 := half_le (u := u) hy b2 (by omega)
  omega
theorem half_done {y1 y0 U u q r : Int} (hy : 0 < y1 * 4294967296 + y0) (h : Half y1 U ((U * 4294967296 + u) / (y1 * 4294967296 + y0)) q r) (ht : ¬ 4294967296 * r + u < q * y0) : q = (U * 4294967296 + u) / (y1 * 4294967296 + y0) := by
  obtain ⟨a1, a2, a3, a4, a5⟩ := h
  have := half_le (u := u) hy a2 (by omega)
  omega
theorem half_test {q y0 r u : Int} (q0 : 0 ≤ q) (q1 : q < 4294967296) (h3 : 0 ≤ y0) (h4 : y0 < 4294967296) (r0 : 0 ≤ r) (r1 : r < 4294967296) (u0 : 0 ≤ u) (u1 : u < 4294967296) :
    IntKind.u64.wrap (q * y0) = q * y0 ∧ IntKind.u64.wrap (IntKind.u64.wrap (4294967296 * r) + u) = 4294967296 * r + u := by
  have h := mul_range q0 (show q ≤ 4294967295 by omega) h3 (show y0 ≤ 4294967295 by omega)
  rw [u64 (x := 4294967296 * r) (by omega) (by omega)]
  exact ⟨u64 h.1 (by omega), u64 (by omega) (by omega)⟩
theorem div_l1 {y s y1 y0 : Int} (h1 : 2147483648 ≤ y1) (h2 : y1 < 4294967296) (h3 : 0 ≤ y0) (h4 : y0 < 4294967296) (s0 : 0 ≤ s) {U u Q1 : Int} (U0 : 0 ≤ U) (hU : U < y1 * 4294967296 + y0) (u0 : 0 ≤ u) (u1 : u < 4294967296) : ∀ (d : Nat) (q r : Int), q = (U * 4294967296 + u) / (y1 * 4294967296 + y0) + d → Half y1 U ((U * 4294967296 + u) / (y1 * 4294967296 + y0)) q r →
    Ev (fun k => bits_Div64.l1 k y s y1 y0 u Q1 r U q) (IntKind.u64.wrap ((IntKind.u64.wrap (Q1 * 4294967296)) + ((U * 4294967296 + u) / (y1 * 4294967296 + y0))), shr .u64 (IntKind.u64.wrap ((IntKind.u64.wrap ((IntKind.u64.wrap (U * 4294967296)) + u)) - (IntKind.u64.wrap (((U * 4294967296 + u) / (y1 * 4294967296 + y0)) * y)))) s) := by
  have hy : 0 < y1 * 4294967296 + y0 := by omega
  have hQ0 : 0 ≤ (U * 4294967296 + u) / (y1 * 4294967296 + y0) := Int.ediv_nonneg (by omega) (by omega)
  intro d
  induction d with
  | zero =>
    intro q r hq h
    have hq : q = (U * 4294967296 + u) / (y1 * 4294967296 + y0) := by omega
    have hq1 := half_lt hy hU u1
    rw [← hq] at hq1
    have ht : ¬ 4294967296 * r + u < q * y0 := by
      intro ht
      have := half_gt (u := u) hy h.2.1 ht
      omega
    obtain ⟨e1, e2⟩ := half_test (show 0 ≤ q by omega) hq1 h3 h4 h.2.2.1 h.2.2.2.1 u0 u1
    have c1 : ¬ q ≥ 4294967296 := by omega
    rw [← hq]
    refine Ev.step (f := fun k => bits_Div64.j4 k y s y1 y0 u Q1 r U q false) (fun k => ?_) (Ev.step (f := fun _ => some _) (fun k => ?_) (Ev.now _))
    · simp only [bits_Div64.l1]
      rw [if_neg c1, e1, e2, decide_eq_false ht]
    · simp only [bits_Div64.j4]
      rw [if_neg Bool.false_ne_true, if_pos s0]
  | succ d ih =>
    intro q r hq h
    have ht : 4294967296 ≤ q ∨ 4294967296 * r + u < q * y0 := by
      by_cases ht : 4294967296 * r + u < q * y0
      · exact Or.inr ht
      · have := half_done hy h ht
        omega
    obtain ⟨g1, g2⟩ := half_step h1 h2 h3 h4 hU u0 u1 h ht
    have r0 := h.2.2.1
    have r1 := h.2.2.2.1
    have q1 := h.2.2.2.2
    have w1 : IntKind.u64.wrap (q - 1) = q - 1 := u64 (by omega) (by omega)
    have w2 : IntKind.u64.wrap (r + y1) = r + y1 := u64 (by omega) (by omega)
    refine Ev.step (f := fun k => bits_Div64.j4 k y s y1 y0 u Q1 r U q true) (fun k => ?_) ?_
    · simp only [bits_Div64.l1]
      by_cases c1 : q ≥ 4294967296
      · rw [if_pos c1]
      · rw [if_neg c1]
        have ht' : 4294967296 * r + u < q * y0 := by
          rcases ht with ht | ht
          · exact absurd ht c1
          · exact ht
        obtain ⟨e1, e2⟩ := half_test (show 0 ≤ q by omega) (by omega) h3 h4 r0 r1 u0 u1
        rw [e1, e2, decide_eq_true ht']
    · by_cases c2 : r + y1 ≥ 4294967296
      · refine Ev.step (f := fun _ => some _) (fun k => ?_) (Ev.now _)
        simp only [bits_Div64.j4]
        rw [if_pos trivial, w1, w2, if_pos c2, if_pos s0, g1 c2]
      · refine Ev.step (f := fun k => bits_Div64.l1 k y s y1 y0 u Q1 (r + y1) U (q - 1)) (fun k => ?_) (ih (q - 1) (r + y1) (by omega) (g2 (by omega)))
        simp only [bits_Div64.j4]
        rw [if_pos trivial, w1, w2, if_neg c2]
theorem div_l0 {y s y1 y0 : Int} (h1 : 2147483648 ≤ y1) (h2 : y1 < 4294967296) (h3 : 0 ≤ y0) (h4 : y0 < 4294967296) {U u v : Int} (U0 : 0 ≤ U) (hU : U < y1 * 4294967296 + y0) (u0 : 0 ≤ u) (u1 : u < 4294967296) {R : Int × Int}
    (next : Ev (fun k => bits_Div64.j2 k y s y1 y0 U u v ((U * 4294967296 + u) / (y1 * 4294967296 + y0))) R) : ∀ (d : Nat) (q r : Int), q = (U * 4294967296 + u) / (y1 * 4294967296 + y0) + d → Half y1 U ((U * 4294967296 + u) / (y1 * 4294967296 + y0)) q r →
    Ev (fun k => bits_Div64.l0 k y s y1 y0 U u v q r) R := by
  have hy : 0 < y1 * 4294967296 + y0 := by omega
  have hQ0 : 0 ≤ (U * 4294967296 + u) / (y1 * 4294967296 + y0) := Int.ediv_nonneg (by omega) (by omega)
  intro d
  induction d with
  | zero =>
    intro q r hq h
    have hq : q = (U * 4294967296 + u) / (y1 * 4294967296 + y0) := by omega
    have hq1 := half_lt hy hU u1
    rw [← hq] at hq1
    have ht : ¬ 4294967296 * r + u < q * y0 := by
      intro ht
      have := half_gt (u := u) hy h.2.1 ht
      omega
    obtain ⟨e1, e2⟩ := half_test (show 0 ≤ q by omega) hq1 h3 h4 h.2.2.1 h.2.2.2.1 u0 u1
    have c1 : ¬ q ≥ 4294967296 := by omega
    rw [← hq] at next
    refine Ev.step (f := fun k => bits_Div64.j1 k y s y1 y0 U u v q r false) (fun k => ?_) (Ev.step (f := fun k => bits_Div64.j2 k y s y1 y0 U u v q) (fun k => ?_) next)
    · simp only [bits_Div64.l0]
      rw [if_neg c1, e1, e2, decide_eq_false ht]
    · simp only [bits_Div64.j1]
      rw [if_neg Bool.false_ne_true]
  | succ d ih =>
    intro q r hq h
    have ht : 4294967296 ≤ q ∨ 4294967296 * r + u < q * y0 := by
      by_cases ht : 4294967296 * r + u < q * y0
      · exact Or.inr ht
      · have := half_done hy h ht
        omega
    obtain ⟨g1, g2⟩ := half_step h1 h2 h3 h4 hU u0 u1 h ht
    have r0 := h.2.2.1
    have r1 := h.2.2.2.1
    have q1 := h.2.2.2.2
    have w1 : IntKind.u64.wrap (q - 1) = q - 1 := u64 (by omega) (by omega)
    have w2 : IntKind.u64.wrap (r + y1) = r + y1 := u64 (by omega) (by omega)
    refine Ev.step (f := fun k => bits_Div64.j1 k y s y1 y0 U u v q r true) (fun k => ?_) ?_
    · simp only [bits_Div64.l0]
      by_cases c1 : q ≥ 4294967296
      · rw [if_pos c1]
      · rw [if_neg c1]
        have ht' : 4294967296 * r + u < q * y0 := by
          rcases ht with ht | ht
          · exact absurd ht c1
          · exact ht
        obtain ⟨e1, e2⟩ := half_test (show 0 ≤ q by omega) (by omega) h3 h4 r0 r1 u0 u1
        rw [e1, e2, decide_eq_true ht']
    · by_cases c2 : r + y1 ≥ 4294967296
      · rw [← g1 c2] at next
        refine Ev.step (f := fun k => bits_Div64.j2 k y s y1 y0 U u v (q - 1)) (fun k => ?_) next
        simp only [bits_Div64.j1]
        rw [if_pos trivial, w1, w2, if_pos c2]
      · refine Ev.step (f := fun k => bits_Div64.l0 k y s y1 y0 U u v (q - 1) (r + y1)) (fun k => ?_) (ih (q - 1) (r + y1) (by omega) (g2 (by omega)))
        simp only [bits_Div64.j1]
        rw [if_pos trivial, w1, w2, if_neg c2]
theorem div64_ev {h l y : Int} (h0 : 0 ≤ h) (hy : h < y) (y1 : y < B64) (l0 : 0 ≤ l) (l1 : l < B64) : Ev (fun k => bits_Div64.f k h l y) ((h * B64 + l) / y, (h * B64 + l) % y) := by
  have y1' : y < 18446744073709551616 := y1
  have l1' : l < 18446744073709551616 := l1
  show Ev (fun k => bits_Div64.f k h l y) ((h * 18446744073709551616 + l) / y, (h * 18446744073709551616 + l) % y)
  have yp : 0 < y := by omega
  by_cases hz : h = 0
  · subst hz
    have hq : l / y < 18446744073709551616 := Int.ediv_lt_of_lt_mul yp (by
      have := Int.mul_le_mul_of_nonneg_left (show 1 ≤ y by omega) (show (0 : Int) ≤ 18446744073709551616 by decide)
      omega)
    refine Ev.congr (f := fun _ => some (l / y, l % y)) (fun k => ?_) (by rw [Int.zero_mul, Int.zero_add]; exact Ev.now _)
    unfold bits_Div64.f
    rw [if_neg (by omega), if_neg (by omega), if_pos rfl, Int.tdiv_eq_ediv_of_nonneg l0, Int.tmod_eq_emod_of_nonneg l0, u64 (Int.ediv_nonneg l0 (by omega)) hq]
  · obtain ⟨s, s1, hs, n0, n1⟩ := norm_word yp y1
    have hPR : (2 : Int) ^ s * 2 ^ (64 - s) = 18446744073709551616 := by
      rw [← Int.pow_add]
      have : s + (64 - s) = 64 := by omega
      rw [this]
      rfl
    have hP : (0 : Int) < 2 ^ s := Int.pow_pos (by decide)
    have hR : (0 : Int) < 2 ^ (64 - s) := Int.pow_pos (by decide)
    have e1 : IntKind.u64.wrap (s : Int) = (s : Int) := u64 (by omega) (by omega)
    have e2 : IntKind.u64.wrap (64 - (s : Int)) = ((64 - s : Nat) : Int) := by rw [u64 (by omega) (by omega)]; omega
    have d1 : shl .u64 y (s : Int) = y * 2 ^ s := by rw [shl_eq _ _ (by omega), Int.emod_eq_of_lt (by omega) n1]
    have h2 : 0 ≤ h * 2 ^ s := Int.mul_nonneg h0 (Int.le_of_lt hP)
    have h3 : h * 2 ^ s + 2 ^ s ≤ y * 2 ^ s := by
      have := Int.mul_le_mul_of_nonneg_right (show h + 1 ≤ y by omega) (Int.le_of_lt hP)
      rwa [Int.add_mul, Int.one_mul] at this
    have hl0 : 0 ≤ l / 2 ^ (64 - s) := Int.ediv_nonneg l0 (Int.le_of_lt hR)
    have hl1 : l / 2 ^ (64 - s) < 2 ^ s := Int.ediv_lt_of_lt_mul hR (by rw [hPR]; exact l1')
    have d2 : Go.bits .or .u64 (shl .u64 h (s : Int)) (shr .u64 l ((64 - s : Nat) : Int)) = h * 2 ^ s + l / 2 ^ (64 - s) := by
      rw [shl_eq _ _ (by omega), shr_eq _ _ (by omega), Int.emod_eq_of_lt h2 (by omega)]
      exact bits_join .u64 64 (by decide) wraps_u64 s (h * 2 ^ s) (l / 2 ^ (64 - s)) h2 (Int.mul_emod_left _ _) (by show _ < (18446744073709551616 : Int); omega) hl0 hl1 (by show _ < (18446744073709551616 : Int); omega)
    have d3 : shl .u64 l (s : Int) = (l * 2 ^ s) % 18446744073709551616 := shl_eq _ _ (by omega)
    have hm : l * 2 ^ s = l / 2 ^ (64 - s) * 18446744073709551616 + (l * 2 ^ s) % 18446744073709551616 := by
      have g := Int.emod_add_mul_ediv l (2 ^ (64 - s))
      have g0 := Int.emod_nonneg l (show (2 : Int) ^ (64 - s) ≠ 0 by omega)
      have g1 := Int.emod_lt_of_pos l hR
      have g2 : l * 2 ^ s = l % 2 ^ (64 - s) * 2 ^ s + 18446744073709551616 * (l / 2 ^ (64 - s)) := by
        conv => lhs; rw [← g]
        rw [Int.add_mul, Int.mul_right_comm, Int.mul_comm (2 ^ (64 - s)) (2 ^ s), hPR]
      have g3 : 0 ≤ l % 2 ^ (64 - s) * 2 ^ s := Int.mul_nonneg g0 (Int.le_of_lt hP)
      have g4 : l % 2 ^ (64 - s) * 2 ^ s < 18446744073709551616 := by
        have := Int.mul_lt_mul_of_pos_right g1 hP
        rwa [Int.mul_comm (2 ^ (64 - s)) (2 ^ s), hPR] at this
      omega
    obtain ⟨U, hU⟩ : ∃ U, U = h * 2 ^ s + l / 2 ^ (64 - s) := ⟨_, rfl⟩
    obtain ⟨L, hL⟩ : ∃ L, L = (l * 2 ^ s) % 18446744073709551616 := ⟨_, rfl⟩
    obtain ⟨Y, hY⟩ : ∃ Y, Y = y * 2 ^ s := ⟨_, rfl⟩
    have L0 : 0 ≤ L := by rw [hL]; exact Int.emod_nonneg _ (by decide)
    have L1 : L < 18446744073709551616 := by rw [hL]; exact Int.emod_lt_of_pos _ (by decide)
    have U0 : 0 ≤ U := by omega
    have U1 : U < Y := by omega
    have key : (h * 18446744073709551616 + l) * 2 ^ s = U * 18446744073709551616 + L := by
      rw [Int.add_mul, Int.mul_right_comm, hU, hL]
      rw [hm] at *
      omega
    rw [← hU] at d2
    rw [← hL] at d3
    rw [← hY] at d1
    rw [← hY] at n0 n1
    have hPle : (2 : Int) ^ s ≤ 2 ^ s := Int.le_refl _
    clear hm h3 hl0 hl1 h2 hPR hR
    have hYd := Int.emod_add_mul_ediv Y 4294967296
    have a1 : 2147483648 ≤ Y / 4294967296 := by omega
    have a2 : Y / 4294967296 < 4294967296 := by omega
    have a3 : 0 ≤ Y % 4294967296 := by omega
    have a4 : Y % 4294967296 < 4294967296 := by omega
    have aY : Y / 4294967296 * 4294967296 + Y % 4294967296 = Y := by omega
    have b1 : 0 ≤ L / 4294967296 := by omega
    have b2 : L / 4294967296 < 4294967296 := by omega
    have b3 : 0 ≤ L % 4294967296 := by omega
    have b4 : L % 4294967296 < 4294967296 := by omega
    have c1 := and_low (x := Y) (by omega) n1
    have c2 := and_low (x := L) L0 L1
    obtain ⟨f1, f2⟩ := half_start a1 a2 a3 a4 U0 (by rw [aY]; exact U1) b1 b2
    have q1 : U / (Y / 4294967296) < 18446744073709551616 := by have := f1.2.2.2.2; omega
    have w1 : IntKind.u64.wrap (Int.tdiv U (Y / 4294967296)) = U / (Y / 4294967296) := by rw [Int.tdiv_eq_ediv_of_nonneg U0, u64 f2 q1]
    have m1 := mul_range f2 (show U / (Y / 4294967296) ≤ 4294967297 from f1.2.2.2.2) (show 0 ≤ Y / 4294967296 by omega) (show Y / 4294967296 ≤ 4294967295 by omega)
    have r1 : U - U / (Y / 4294967296) * (Y / 4294967296) = U % (Y / 4294967296) := by have := f1.2.1; omega
    have w2 : IntKind.u64.wrap (U / (Y / 4294967296) * (Y / 4294967296)) = U / (Y / 4294967296) * (Y / 4294967296) := u64 m1.1 (by omega)
    have w3 : IntKind.u64.wrap (U % (Y / 4294967296)) = U % (Y / 4294967296) := u64 f1.2.2.1 (by have := f1.2.2.2.1; omega)
    refine Ev.congr (f := fun k => bits_Div64.l0 k Y (s : Int) (Y / 4294967296) (Y % 4294967296) U (L / 4294967296) (L % 4294967296) (U / (Y / 4294967296)) (U % (Y / 4294967296))) (fun k => ?_) ?_
    · unfold bits_Div64.f
      rw [if_neg (by omega), if_neg (by omega), if_neg hz, hs, Option.bind_some, e1, if_pos (by omega), e2, if_pos (by omega), d1, d2, d3, c1, c2, if_neg (by omega), w1, w2, r1, w3]
    · obtain ⟨d, hd⟩ : ∃ d : Nat, U / (Y / 4294967296) = (U * 4294967296 + L / 4294967296) / (Y / 4294967296 * 4294967296 + Y % 4294967296) + d := ⟨(U / (Y / 4294967296) - (U * 4294967296 + L / 4294967296) / (Y / 4294967296 * 4294967296 + Y % 4294967296)).toNat, by have := f1.1; omega⟩
      refine div_l0 a1 a2 a3 a4 U0 (by rw [aY]; exact U1) b1 b2 ?_ d _ _ hd f1
      clear d hd f1 f2 q1 w1 m1 r1 w2 w3
      rw [aY]
      obtain ⟨Q, hQ⟩ : ∃ Q, Q = (U * 4294967296 + L / 4294967296) / Y := ⟨_, rfl⟩
      obtain ⟨V, hV⟩ : ∃ V, V = (U * 4294967296 + L / 4294967296) % Y := ⟨_, rfl⟩
      have gQ := Int.emod_add_mul_ediv (U * 4294967296 + L / 4294967296) Y
      have V0 : 0 ≤ V := by rw [hV]; exact Int.emod_nonneg _ (by omega)
      have V1 : V < Y := by rw [hV]; exact Int.emod_lt_of_pos _ (by omega)
      have Q0 : 0 ≤ Q := by rw [hQ]; exact Int.ediv_nonneg (by omega) (by omega)
      have Q1 : Q < 4294967296 := by
        have := half_lt (y1 := Y / 4294967296) (y0 := Y % 4294967296) (U := U) (u := L / 4294967296) (by omega) (by omega) b2
        rwa [aY, ← hQ] at this
      rw [← hQ, ← hV] at gQ
      rw [← hQ]
      have w4 : IntKind.u64.wrap (IntKind.u64.wrap (IntKind.u64.wrap (U * 4294967296) + L / 4294967296) - IntKind.u64.wrap (Q * Y)) = V := by
        rw [Int.mul_comm Y Q] at gQ
        generalize Q * Y = QY at *
        rw [u64_mod, u64_mod, u64_mod, u64_mod]
        omega
      obtain ⟨f1, f2⟩ := half_start a1 a2 a3 a4 V0 (by rw [aY]; exact V1) b3 b4
      have q1 : V / (Y / 4294967296) < 18446744073709551616 := by have := f1.2.2.2.2; omega
      have w1 : IntKind.u64.wrap (Int.tdiv V (Y / 4294967296)) = V / (Y / 4294967296) := by rw [Int.tdiv_eq_ediv_of_nonneg V0, u64 f2 q1]
      have m1 := mul_range f2 (show V / (Y / 4294967296) ≤ 4294967297 from f1.2.2.2.2) (show 0 ≤ Y / 4294967296 by omega) (show Y / 4294967296 ≤ 4294967295 by omega)
      have r1 : V - V / (Y / 4294967296) * (Y / 4294967296) = V % (Y / 4294967296) := by have := f1.2.1; omega
      have w2 : IntKind.u64.wrap (V / (Y / 4294967296) * (Y / 4294967296)) = V / (Y / 4294967296) * (Y / 4294967296) := u64 m1.1 (by omega)
      have w3 : IntKind.u64.wrap (V % (Y / 4294967296)) = V % (Y / 4294967296) := u64 f1.2.2.1 (by have := f1.2.2.2.1; omega)
      refine Ev.step (f := fun k => bits_Div64.l1 k Y (s : Int) (Y / 4294967296) (Y % 4294967296) (L % 4294967296) Q (V % (Y / 4294967296)) V (V / (Y / 4294967296))) (fun k => ?_) ?_
      · simp only [bits_Div64.j2]
        rw [if_neg (by omega), w4, w1, w2, r1, w3]
      · obtain ⟨d, hd⟩ : ∃ d : Nat, V / (Y / 4294967296) = (V * 4294967296 + L % 4294967296) / (Y / 4294967296 * 4294967296 + Y % 4294967296) + d := ⟨(V / (Y / 4294967296) - (V * 4294967296 + L % 4294967296) / (Y / 4294967296 * 4294967296 + Y % 4294967296)).toNat, by have := f1.1; omega⟩
        have fin := div_l1 (y := Y) (s := (s : Int)) a1 a2 a3 a4 (by omega) V0 (by rw [aY]; exact V1) b3 b4 (Q1 := Q) d _ _ hd f1
        rw [aY] at fin
        clear d hd f1 f2 q1 w1 m1 r1 w2 w3 w4
        obtain ⟨q, hq⟩ : ∃ q, q = (V * 4294967296 + L % 4294967296) / Y := ⟨_, rfl⟩
        obtain ⟨v, hv⟩ : ∃ v, v = (V * 4294967296 + L % 4294967296) % Y := ⟨_, rfl⟩
        have gq := Int.emod_add_mul_ediv (V * 4294967296 + L % 4294967296) Y
        have v0 : 0 ≤ v := by rw [hv]; exact Int.emod_nonneg _ (by omega)
        have v1 : v < Y := by rw [hv]; exact Int.emod_lt_of_pos _ (by omega)
        have q0 : 0 ≤ q := by rw [hq]; exact Int.ediv_nonneg (by omega) (by omega)
        have q1 : q < 4294967296 := by
          have := half_lt (y1 := Y / 4294967296) (y0 := Y % 4294967296) (U := V) (u := L % 4294967296) (by omega) (by omega) b4
          rwa [aY, ← hq] at this
        rw [← hq, ← hv] at gq
        rw [← hq] at fin
        have w5 : IntKind.u64.wrap (IntKind.u64.wrap (IntKind.u64.wrap (V * 4294967296) + L % 4294967296) - IntKind.u64.wrap (q * Y)) = v := by
          rw [Int.mul_comm Y q] at gq
          generalize q * Y = QY at *
          rw [u64_mod, u64_mod, u64_mod, u64_mod]
          omega
        have w6 : IntKind.u64.wrap (IntKind.u64.wrap (Q * 4294967296) + q) = Q * 4294967296 + q := by
          rw [u64 (x := Q * 4294967296) (by omega) (by omega), u64 (by omega) (by omega)]
        rw [w5, w6, shr_eq _ _ (by omega)] at fin
        have hN : (h * 18446744073709551616 + l) * 2 ^ s = (Q * 4294967296 + q) * Y + v := by
          rw [key, Int.add_mul, Int.mul_right_comm Q]
          rw [Int.mul_comm Y Q] at gQ
          rw [Int.mul_comm Y q] at gq
          generalize Q * Y = QY at *
          generalize q * Y = qY at *
          omega
        rw [hY, ← Int.mul_assoc] at hN
        have hv' : v = (h * 18446744073709551616 + l - (Q * 4294967296 + q) * y) * 2 ^ s := by rw [Int.sub_mul]; omega
        have hv2 : v / 2 ^ s = h * 18446744073709551616 + l - (Q * 4294967296 + q) * y := by rw [hv', Int.mul_ediv_cancel _ (by omega)]
        have hv3 : 0 ≤ v / 2 ^ s := Int.ediv_nonneg v0 (by omega)
        have hv4 : v / 2 ^ s < y := Int.ediv_lt_of_lt_mul hP (by rw [← hY]; exact v1)
        have e : (h * 18446744073709551616 + l) / y = Q * 4294967296 + q ∧ (h * 18446744073709551616 + l) % y = v / 2 ^ s := by
          have : h * 18446744073709551616 + l = v / 2 ^ s + y * (Q * 4294967296 + q) := by rw [hv2, Int.mul_comm y]; omega
          constructor
          · rw [this, Int.add_mul_ediv_left _ _ (by omega), Int.ediv_eq_zero_of_lt hv3 hv4, Int.zero_add]
          · rw [this, Int.add_mul_emod_self_left, Int.emod_eq_of_lt hv3 hv4]
        rw [e.1, e.2]
        exact fin
end Go.Proofs.YtohkmnbnjacfaaaN
set_option linter.unusedVariables false
namespace Go.Proofs.YtohkmnbnjacfaaaN
open Go.RowKit Go.Proofs.Ytohkmnbnjacfaaa.All Go.Proofs.YtohkmnbnjacfaaaW.PrintWords Go.Proofs.YtohkmnbnjacfaaaW.PrintLast Go.Proofs.YtohkmnbnjacfaaaW.PrintMore
theorem top_lt {x y : List Int} (hx : Dig B64 x) (hy : Dig B64 y) {i : Nat} (hi : i < x.length) (hi' : i < y.length) (hd : vB B64 (x.drop (i + 1)) = vB B64 (y.drop (i + 1))) (h : rd x (i : Int) < rd y (i : Int)) : vB B64 x < vB B64 y := by
  have hB : (0 : Int) < B64 := by decide
  have hsx := vB_split B64 x (i + 1) (by omega)
  have hsy := vB_split B64 y (i + 1) (by omega)
  rw [take_succ] at hsx hsy
  have ax := vB_lt hB (Dig_take hx i)
  rw [List.length_take, Nat.min_eq_left (by omega)] at ax
  have bb := vB_nonneg (Int.le_of_lt hB) (Dig_take hy i)
  rw [hd] at hsx
  have hP : (0 : Int) < B64 ^ i := Int.pow_pos hB
  rw [hsx, hsy]
  generalize vB B64 (x.take i) = X at *
  generalize vB B64 (y.take i) = Y at *
  generalize B64 ^ (i + 1) * vB B64 (y.drop (i + 1)) = Z at *
  generalize (B64 : Int) ^ i = P at *
  generalize rd x (i : Int) = a at *
  generalize rd y (i : Int) = b at *
  have h1 := Int.mul_le_mul_of_nonneg_left (show a + 1 ≤ b by omega) (Int.le_of_lt hP)
  rw [Int.mul_add, Int.mul_one] at h1
  clear hsx hsy hd
  omega
theorem cmp_l0 (x y : List Int) (hx : Dig B64 x) (hy : Dig B64 y) (hl : x.length = y.length) (hs : x.length < 9223372036854775808) {m n : Nat} (hm : vB B64 x = m) (hn : vB B64 y = n) : ∀ i : Nat, i ≤ x.length → vB B64 (x.drop i) = vB B64 (y.drop i) → Ev (fun k => exact_compareWords.l0 k x y ((i : Int) - 1)) (cmpN m n) := by
  have hB : (0 : Int) < B64 := by decide
  intro i
  induction i with
  | zero =>
    intro _ hd
    rw [List.drop_zero, List.drop_zero, hm, hn] at hd
    have e : m = n := by omega
    subst e
    refine Ev.step (f := fun _ => some 0) (fun k => ?_) (by
      have : cmpN m m = 0 := by simp [cmpN]
      rw [this]
      exact Ev.now _)
    simp only [exact_compareWords.l0]
    rw [if_neg (by decide)]
  | succ i ih =>
    intro hi hd
    have e0 : ((i + 1 : Nat) : Int) - 1 = (i : Int) := by omega
    have e1 : wrap64 ((i : Int) - 1) = (i : Int) - 1 := w64 (by omega) (by omega)
    have c1 : (i : Int) ≥ 0 := by omega
    have c2 : (i : Int) < (x.length : Int) := by omega
    have c3 : (i : Int) < (y.length : Int) := by omega
    rw [e0]
    by_cases he : rd x (i : Int) = rd y (i : Int)
    · refine Ev.step (f := fun k => exact_compareWords.l0 k x y ((i : Int) - 1)) (fun k => ?_) (ih (by omega) ?_)
      · simp only [exact_compareWords.l0, e1]
        rw [if_pos c1, if_pos c1, if_pos c2, if_pos c3, if_pos he]
      · rw [List.drop_eq_getElem_cons (show i < x.length by omega), List.drop_eq_getElem_cons (show i < y.length by omega), vB_cons, vB_cons, hd, ← rd_get x i (by omega), ← rd_get y i (by omega), he]
    · by_cases hab : rd x (i : Int) < rd y (i : Int)
      · have h1 := top_lt hx hy (by omega) (by omega) hd hab
        have h2 : m < n := by rw [hm, hn] at h1; omega
        refine Ev.step (f := fun _ => some (-1)) (fun k => ?_) (by
          have : cmpN m n = -1 := by unfold cmpN; rw [if_pos h2]
          rw [this]
          exact Ev.now _)
        simp only [exact_compareWords.l0, e1]
        rw [if_pos c1, if_pos c1, if_pos c2, if_pos c3, if_neg he, if_pos hab]
      · have h1 := top_lt hy hx (by omega) (by omega) hd.symm (show rd y (i : Int) < rd x (i : Int) by omega)
        have h2 : n < m := by rw [hm, hn] at h1; omega
        refine Ev.step (f := fun _ => some 1) (fun k => ?_) (by
          have : cmpN m n = 1 := by unfold cmpN; rw [if_neg (by omega), if_neg (by omega)]
          rw [this]
          exact Ev.now _)
        simp only [exact_compareWords.l0, e1]
        rw [if_pos c1, if_pos c1, if_pos c2, if_pos c3, if_neg he, if_neg hab]
theorem compareWords_ev {m n : Nat} (hm : (d64 m).length ≤ 1099511627776) (hn : (d64 n).length ≤ 1099511627776) : Ev (fun k => exact_compareWords.f k (d64 m) (d64 n)) (cmpN m n) := by
  by_cases h1 : (d64 m).length = (d64 n).length
  · have := cmp_l0 (d64 m) (d64 n) (d64_dig m) (d64_dig n) h1 (by omega) (d64_val m) (d64_val n) (d64 m).length (Nat.le_refl _) (by
      rw [List.drop_of_length_le (Nat.le_refl _), List.drop_of_length_le (by omega)])
    refine Ev.congr (fun k => ?_) this
    unfold exact_compareWords.f
    rw [if_pos (by omega), w64 (by omega) (by omega)]
  · by_cases h2 : (d64 m).length < (d64 n).length
    · have h3 := trim_len (by decide) (d64_dig m) (d64_dig n) (d64_trim n) h2
      rw [d64_val, d64_val] at h3
      refine Ev.congr (f := fun _ => some (-1)) (fun k => ?_) (by
        have : cmpN m n = -1 := by unfold cmpN; rw [if_pos (by omega)]
        rw [this]
        exact Ev.now _)
      unfold exact_compareWords.f
      rw [if_neg (by omega), if_pos (by omega)]
    · have h3 := trim_len (by decide) (d64_dig n) (d64_dig m) (d64_trim m) (by omega)
      rw [d64_val, d64_val] at h3
      refine Ev.congr (f := fun _ => some 1) (fun k => ?_) (by
        have : cmpN m n = 1 := by unfold cmpN; rw [if_neg (by omega), if_neg (by omega)]
        rw [this]
        exact Ev.now _)
      unfold exact_compareWords.f
      rw [if_neg (by omega), if_neg (by omega)]
theorem word_shift {x : Int} (x0 : 0 ≤ x) (x1 : x < B64) (s : Nat) (hs : s ≤ 63) : x * 2 ^ s = (x * 2 ^ s) % B64 + B64 * (x / 2 ^ (64 - s)) ∧ 0 ≤ x / 2 ^ (64 - s) ∧ x / 2 ^ (64 - s) < 2 ^ s ∧ ((x * 2 ^ s) % B64) % 2 ^ s = 0 := by
  have hP : (0 : Int) < 2 ^ s := Int.pow_pos (by decide)
  have hR : (0 : Int) < 2 ^ (64 - s) := Int.pow_pos (by decide)
  have hPR : (2 : Int) ^ (64 - s) * 2 ^ s = B64 := by
    rw [← Int.pow_add]
    have : 64 - s + s = 64 := by omega
    rw [this]
    rfl
  have g := Int.emod_add_mul_ediv x (2 ^ (64 - s))
  have g0 := Int.emod_nonneg x (show (2 : Int) ^ (64 - s) ≠ 0 by omega)
  have g1 := Int.emod_lt_of_pos x hR
  have g2 : x * 2 ^ s = x % 2 ^ (64 - s) * 2 ^ s + B64 * (x / 2 ^ (64 - s)) := by
    conv => lhs; rw [← g]
    rw [Int.add_mul, Int.mul_right_comm, hPR]
  have g3 : 0 ≤ x % 2 ^ (64 - s) * 2 ^ s := Int.mul_nonneg g0 (Int.le_of_lt hP)
  have g4 : x % 2 ^ (64 - s) * 2 ^ s < B64 := by
    have := Int.mul_lt_mul_of_pos_right g1 hP
    rwa [hPR] at this
  have g5 : (x * 2 ^ s) % B64 = x % 2 ^ (64 - s) * 2 ^ s := by
    rw [g2, Int.add_mul_emod_self_left, Int.emod_eq_of_lt g3 g4]
  refine ⟨by rw [g5]; exact g2, Int.ediv_nonneg x0 (Int.le_of_lt hR), Int.ediv_lt_of_lt_mul hR (by rw [Int.mul_comm, hPR]; exact x1), by rw [g5]; exact Int.mul_emod_left _ _⟩
theorem bits_or_comm {x y : Int} (x0 : 0 ≤ x) (x1 : x < 2 ^ 64) (y0 : 0 ≤ y) (y1 : y < 2 ^ 64) : Go.bits .or .u64 x y = Go.bits .or .u64 y x := by
  obtain ⟨a, rfl⟩ := Int.eq_ofNat_of_zero_le x0
  obtain ⟨b, rfl⟩ := Int.eq_ofNat_of_zero_le y0
  have ha : a < 2 ^ 64 := by omega
  have hb : b < 2 ^ 64 := by omega
  rw [(bits_nat .u64 64 (by decide) wraps_u64 a b ha hb).2, (bits_nat .u64 64 (by decide) wraps_u64 b a hb ha).2, Nat.or_comm]
theorem bits_join2 (s : Nat) (hs : s ≤ 64) {x y : Int} (x0 : 0 ≤ x) (x1 : x < 2 ^ s) (y0 : 0 ≤ y) (y1 : y < B64) (hy : y % 2 ^ s = 0) (hxy : x + y < B64) : Go.bits .or .u64 x y = x + y := by
  have y1' : y < 2 ^ 64 := by simpa using y1
  have x2 : x < 2 ^ 64 := Int.lt_of_le_of_lt (by omega) hxy
  have := bits_join .u64 64 (by decide) wraps_u64 s y x y0 hy y1' x0 x1 x2
  rw [Int.add_comm x y, ← this]
  exact bits_or_comm x0 x2 y0 y1'
def ShiftOut (w out : List Int) (s i : Nat) : Prop :=
  out.length = w.length + 1 ∧ Dig B64 out ∧ vB B64 out = vB B64 (w.take i) * 2 ^ s ∧ (rd out (i : Int) < 2 ^ s) ∧ ∀ j : Nat, i < j → rd out (j : Int) = 0
theorem shift_out {w out : List Int} {s i : Nat} (hs : s ≤ 63) (hw : Dig B64 w) (hi : i < w.length) (h : ShiftOut w out s i) :
    ShiftOut w ((out.set i (rd out (i : Int) + (rd w (i : Int) * 2 ^ s) % B64)).set (i + 1) (rd w (i : Int) / 2 ^ (64 - s))) s (i + 1) ∧ 0 ≤ rd out (i : Int) + (rd w (i : Int) * 2 ^ s) % B64 ∧ rd out (i : Int) + (rd w (i : Int) * 2 ^ s) % B64 < B64 := by
  obtain ⟨hl, hd, hv, hr, hz⟩ := h
  obtain ⟨x0, x1⟩ := Dig_rd hw i hi
  obtain ⟨o0, o1⟩ := Dig_rd hd i (by omega)
  obtain ⟨a1, a2, a3, a4⟩ := word_shift x0 x1 s hs
  have hP : (0 : Int) < 2 ^ s := Int.pow_pos (by decide)
  have m0 := Int.emod_nonneg (rd w (i : Int) * 2 ^ s) (show (B64 : Int) ≠ 0 by decide)
  have m1 := Int.emod_lt_of_pos (rd w (i : Int) * 2 ^ s) (show (0 : Int) < B64 by decide)
  have hsum : rd out (i : Int) + (rd w (i : Int) * 2 ^ s) % B64 < B64 := by
    obtain ⟨c, hc⟩ : ∃ c, c * 2 ^ s = B64 := ⟨2 ^ (64 - s), by
      rw [← Int.pow_add]
      have : 64 - s + s = 64 := by omega
      rw [this]
      rfl⟩
    have h1 := Int.emod_add_mul_ediv ((rd w (i : Int) * 2 ^ s) % B64) (2 ^ s)
    rw [a4, Int.zero_add] at h1
    generalize ((rd w (i : Int) * 2 ^ s) % B64) / 2 ^ s = e at *
    generalize (rd w (i : Int) * 2 ^ s) % B64 = M at *
    rw [← h1, ← hc] at m1
    have h2 : e < c := Int.lt_of_mul_lt_mul_right (by rwa [Int.mul_comm (2 ^ s) e] at m1) (Int.le_of_lt hP)
    have h3 := Int.mul_le_mul_of_nonneg_right (show e + 1 ≤ c by omega) (Int.le_of_lt hP)
    rw [Int.add_mul, Int.one_mul, hc, Int.mul_comm e] at h3
    omega
  have hsum0 : 0 ≤ rd out (i : Int) + (rd w (i : Int) * 2 ^ s) % B64 := by omega
  have hlt : rd w (i : Int) / 2 ^ (64 - s) < B64 := by
    have : (2 : Int) ^ s ≤ 2 ^ 63 := pow_le_pow (by decide) hs
    have e : (2 : Int) ^ 63 < B64 := by decide
    exact Int.lt_trans a3 (Int.lt_of_le_of_lt this e)
  refine ⟨⟨by rw [List.length_set, List.length_set]; exact hl, Dig_set (Dig_set hd _ hsum0 hsum) _ a2 hlt, ?_, ?_, fun j hj => ?_⟩, hsum0, hsum⟩
  · have c1 : i < out.length := by omega
    have c2 : i + 1 < (out.set i (rd out (i : Int) + (rd w (i : Int) * 2 ^ s) % B64)).length := by rw [List.length_set]; omega
    rw [vB_set _ _ _ _ c2, rd_set_ne _ _ _ _ (by omega), hz (i + 1) (by omega), vB_set _ _ _ _ c1, hv, take_succ, Int.pow_succ, Int.sub_zero, Int.add_mul]
    have e1 : rd out (i : Int) + rd w (i : Int) * 2 ^ s % B64 - rd out (i : Int) = rd w (i : Int) * 2 ^ s % B64 := by omega
    rw [e1, Int.mul_assoc (B64 ^ i) B64, Int.mul_assoc (B64 ^ i) (rd w (i : Int)), a1, Int.mul_add, Int.add_assoc]
    congr 2
    rw [← a1]
  · rw [rd_set_self _ _ _ (by rw [List.length_set]; omega)]
    exact a3
  · rw [rd_set_ne _ _ _ _ (by omega), rd_set_ne _ _ _ _ (by omega)]
    exact hz j (by omega)
theorem shiftUp_l0 (w : List Int) (hw : Dig B64 w) (lw : w.length ≤ 1099511627776) (s : Nat) (hs : s ≤ 63) : ∀ (d i : Nat) (out : List Int), i + d = w.length → ShiftOut w out s i →
    ∃ r, r.length = w.length + 1 ∧ Dig B64 r ∧ vB B64 r = vB B64 w * 2 ^ s ∧ Ev (fun k => exact_shiftUp.l0 k (s : Int) out w (w.length : Int) (i : Int)) r := by
  intro d
  induction d with
  | zero =>
    intro i out hi h
    obtain ⟨hl, hd, hv, hr, hz⟩ := h
    have hi : i = w.length := by omega
    subst hi
    refine ⟨out, hl, hd, by rw [hv, vB_all _ _ _ (Nat.le_refl _)], Ev.step (f := fun _ => some out) (fun k => ?_) (Ev.now _)⟩
    simp only [exact_shiftUp.l0]
    rw [if_neg (Int.lt_irrefl _)]
  | succ d ih =>
    intro i out hi h
    have hi' : i < w.length := by omega
    obtain ⟨hn, n0, n1⟩ := shift_out hs hw hi' h
    have hl := h.1
    have hr := h.2.2.2.1
    obtain ⟨o0, o1⟩ := Dig_rd h.2.1 i (by omega)
    have hz := h.2.2.2.2 (i + 1) (by omega)
    obtain ⟨x0, x1⟩ := Dig_rd hw i hi'
    obtain ⟨a1, a2, a3, a4⟩ := word_shift x0 x1 s hs
    have m0 := Int.emod_nonneg (rd w (i : Int) * 2 ^ s) (show (B64 : Int) ≠ 0 by decide)
    have m1 := Int.emod_lt_of_pos (rd w (i : Int) * 2 ^ s) (show (0 : Int) < B64 by decide)
    have c1 : (i : Int) < (w.length : Int) := Int.ofNat_lt.2 hi'
    have c2 : (i : Int) < (out.length : Int) := by omega
    have c3 : ((i + 1 : Nat) : Int) < (out.length : Int) := by omega
    have c4 : i + 1 + d = w.length := by omega
    obtain ⟨r, r1, r2, r3, r4⟩ := ih (i + 1) _ c4 hn
    refine ⟨r, r1, r2, r3, Ev.step (f := fun k => exact_shiftUp.l0 k (s : Int) ((out.set i (rd out (i : Int) + (rd w (i : Int) * 2 ^ s) % B64)).set (i + 1) (rd w (i : Int) / 2 ^ (64 - s))) w (w.length : Int) ((i + 1 : Nat) : Int)) (fun k => ?_) r4⟩
    have c5 : ¬ (s : Int) > 0 → s = 0 := by omega
    have g1 : Go.bits .or .u64 (rd out (i : Int)) (shl .u64 (rd w (i : Int)) (s : Int)) = rd out (i : Int) + (rd w (i : Int) * 2 ^ s) % B64 := by
      rw [shl_eq _ _ (by omega)]
      have := bits_join2 s (by omega) o0 hr m0 m1 a4 n1
      exact this
    have g2 : shr .u64 (rd w (i : Int)) ((64 - s : Nat) : Int) = rd w (i : Int) / 2 ^ (64 - s) := shr_eq _ _ (by omega)
    have e1 : wrap64 ((i : Int) + 1) = ((i + 1 : Nat) : Int) := by clear a1 g1 g2; rw [w64 (by omega) (by omega)]; omega
    have e2 : wrap64 (64 - (s : Int)) = ((64 - s : Nat) : Int) := by clear a1 g1 g2 e1; rw [w64 (by omega) (by omega)]; omega
    simp only [exact_shiftUp.l0, e1, e2, g1, g2, Int.toNat_natCast, Option.bind_some]
    rw [if_pos c1, if_pos (Int.natCast_nonneg _), if_pos c1, if_pos c2, if_pos (Int.natCast_nonneg _)]
    by_cases hs0 : (s : Int) > 0
    · rw [if_pos hs0, if_pos (Int.natCast_nonneg _), if_pos (Int.natCast_nonneg _), if_pos c3]
    · rw [if_neg hs0]
      have hs1 := c5 hs0
      subst hs1
      have hq : rd w (i : Int) / 2 ^ (64 - 0) = 0 := Int.ediv_eq_zero_of_lt x0 x1
      rw [hq]
      have := set_eq (out.set i (rd out (i : Int) + (rd w (i : Int) * 2 ^ 0) % B64)) (i + 1) (by rw [List.length_set]; clear a1 g1 g2 e1 e2; omega)
      rw [rd_set_ne _ _ _ _ (by clear a1 g1 g2 e1 e2; omega), hz] at this
      rw [this]
theorem shiftUp_ev (w : List Int) (hw : Dig B64 w) (lw : w.length ≤ 1099511627776) (s : Nat) (hs : s ≤ 63) : ∃ r, r.length = w.length + 1 ∧ Dig B64 r ∧ vB B64 r = vB B64 w * 2 ^ s ∧ Ev (fun k => exact_shiftUp.f k w (s : Int)) r := by
  obtain ⟨r, r1, r2, r3, r4⟩ := shiftUp_l0 w hw lw s hs w.length 0 (List.replicate (w.length + 1) 0) (Nat.zero_add _) ⟨by simp, Dig_replicate (by decide) _, by rw [vB_replicate]; simp [vB], by rw [rd_replicate]; exact Int.pow_pos (by decide), fun j _ => rd_replicate _ _⟩
  refine ⟨r, r1, r2, r3, Ev.congr (fun k => ?_) r4⟩
  unfold exact_shiftUp.f
  have e1 : wrap64 ((w.length : Int) + 1) = ((w.length + 1 : Nat) : Int) := by rw [w64 (by omega) (by omega)]; omega
  rw [e1, if_pos (Int.natCast_nonneg _), Int.toNat_natCast, if_pos (by omega)]
  rfl
end Go.Proofs.YtohkmnbnjacfaaaN
set_option linter.unusedVariables false
namespace Go.Proofs.YtohkmnbnjacfaaaN
open Go.RowKit Go.Proofs.Ytohkmnbnjacfaaa.All Go.Proofs.YtohkmnbnjacfaaaW.PrintWords Go.Proofs.YtohkmnbnjacfaaaW.PrintLast Go.Proofs.YtohkmnbnjacfaaaW.PrintMore
def SubMul (u v z : List Int) (q : Int) (i : Nat) (b c : Int) : Prop :=
  z.length = u.length ∧ Dig B64 z ∧ (0 ≤ b ∧ b ≤ 1) ∧ (0 ≤ c ∧ c < B64) ∧ vB B64 z + q * vB B64 (v.take i) = vB B64 u + B64 ^ i * (b + c)
theorem sub_mul {u v z : List Int} {q b c d e : Int} {i : Nat} (hz : i < z.length) (q0 : 0 ≤ q) (q1 : q < B64) (hv : Dig B64 v) (hi : i < v.length) (h : SubMul u v z q i b c) (d0 : 0 ≤ d) (d1 : d < B64) (e0 : 0 ≤ e) (e1 : e ≤ 1)
    (he : d = rd z (i : Int) - (q * rd v (i : Int) + 0 + c) % B64 - b + B64 * e) : SubMul u v (z.set i d) q (i + 1) e ((q * rd v (i : Int) + 0 + c) / B64) := by
  obtain ⟨hl, hd, hb, hc, hs⟩ := h
  obtain ⟨y0, y1⟩ := Dig_rd hv i hi
  obtain ⟨-, -, n0, n1⟩ := mul_add q0 q1 y0 y1 (Int.le_refl 0) (by decide) hc.1 hc.2
  refine ⟨by rw [List.length_set]; exact hl, Dig_set hd _ d0 d1, ⟨e0, e1⟩, ⟨n0, n1⟩, ?_⟩
  rw [vB_set _ _ _ _ hz, take_succ, Int.pow_succ, he]
  have g := Int.emod_add_mul_ediv (q * rd v (i : Int) + 0 + c) B64
  generalize (q * rd v (i : Int) + 0 + c) / B64 = C at *
  generalize (q * rd v (i : Int) + 0 + c) % B64 = l at *
  have er : l = q * rd v (i : Int) + c - B64 * C := by clear hs; omega
  have e2 : rd z (i : Int) - l - b + B64 * e - rd z (i : Int) = B64 * e + B64 * C - q * rd v (i : Int) - c - b := by clear hs; omega
  rw [e2]
  generalize rd v (i : Int) = y at *
  generalize vB B64 (List.take i v) = T at *
  generalize (B64 : Int) ^ i = P at *
  rw [Int.mul_add q, Int.mul_left_comm q P y, Int.mul_sub, Int.mul_sub, Int.mul_sub, Int.mul_add, Int.mul_assoc P B64, Int.mul_add B64, Int.mul_add P]
  rw [Int.mul_add] at hs
  generalize q * y = qy at *
  generalize P * qy = A at *
  generalize P * (B64 * e) = A1 at *
  generalize P * (B64 * C) = A2 at *
  generalize P * c = A3 at *
  generalize P * b = A4 at *
  omega
def AddBack (u v z : List Int) (i : Nat) (c : Int) : Prop :=
  z.length = u.length ∧ Dig B64 z ∧ (0 ≤ c ∧ c ≤ 1) ∧ vB B64 z + B64 ^ i * c = vB B64 u + vB B64 (v.take i)
theorem add_back {u v z : List Int} {i : Nat} {c : Int} (hz : i < z.length) (hv : Dig B64 v) (hi : i < v.length) (h : AddBack u v z i c) :
    AddBack u v (z.set i ((rd z (i : Int) + rd v (i : Int) + c) % B64)) (i + 1) ((rd z (i : Int) + rd v (i : Int) + c) / B64) := by
  obtain ⟨hl, hd, hc, hs⟩ := h
  obtain ⟨x0, x1⟩ := Dig_rd hd i hz
  obtain ⟨y0, y1⟩ := Dig_rd hv i hi
  refine ⟨by rw [List.length_set]; exact hl, Dig_set hd _ (Int.emod_nonneg _ (by decide)) (Int.emod_lt_of_pos _ (by decide)), add_range x0 x1 y0 y1 hc.1 hc.2, ?_⟩
  rw [vB_set _ _ _ _ hz, take_succ, Int.pow_succ]
  have e := Int.emod_add_mul_ediv (rd z (i : Int) + rd v (i : Int) + c) B64
  generalize (rd z (i : Int) + rd v (i : Int) + c) / B64 = q at *
  generalize (rd z (i : Int) + rd v (i : Int) + c) % B64 = r at *
  have er : r - rd z (i : Int) = rd v (i : Int) + c - B64 * q := by clear hs; omega
  rw [er, Int.mul_sub, Int.mul_add, Int.mul_assoc (B64 ^ i) B64 q]
  generalize (B64 : Int) ^ i = P at *
  omega
theorem back_last {u v z : List Int} {n : Nat} {c U q : Int} (hn : v.length = n) (hl : u.length = n + 1) (h : AddBack u v z n c) (hu : vB B64 u = U - q * vB B64 v + B64 ^ (n + 1)) (h0 : 0 ≤ U - (q - 1) * vB B64 v) (h1 : U - (q - 1) * vB B64 v < B64 ^ (n + 1)) :
    vB B64 (z.set n (IntKind.u64.wrap (rd z (n : Int) + c))) = U - (q - 1) * vB B64 v ∧ Dig B64 (z.set n (IntKind.u64.wrap (rd z (n : Int) + c))) := by
  obtain ⟨hlz, hd, hc, hs⟩ := h
  have hz : n < z.length := by omega
  obtain ⟨x0, x1⟩ := Dig_rd hd n hz
  have hdd : Dig B64 (z.set n (IntKind.u64.wrap (rd z (n : Int) + c))) := Dig_set hd _ (by rw [u64_mod]; exact Int.emod_nonneg _ (by decide)) (by rw [u64_mod]; exact Int.emod_lt_of_pos _ (by decide))
  refine ⟨?_, hdd⟩
  have b0 := vB_nonneg (by decide) hdd
  have b1 := vB_lt (by decide) hdd
  rw [List.length_set, hlz, hl] at b1
  rw [vB_set _ _ _ _ hz] at b0 b1 ⊢
  rw [vB_all _ _ _ (by rw [hn]; exact Nat.le_refl _)] at hs
  rw [u64_mod] at b0 b1 ⊢
  rw [Int.sub_mul, Int.one_mul] at h0 h1 ⊢
  have e := Int.emod_add_mul_ediv (rd z (n : Int) + c) 18446744073709551616
  have x1' : rd z (n : Int) < 18446744073709551616 := x1
  have he : (rd z (n : Int) + c) / 18446744073709551616 = 0 ∨ (rd z (n : Int) + c) / 18446744073709551616 = 1 := by clear hs hu h0 h1 b0 b1; omega
  have hBB : (B64 : Int) ^ (n + 1) = B64 ^ n * 18446744073709551616 := Int.pow_succ _ _
  rw [hBB] at hu h1 b1
  clear hBB hdd hd
  generalize (rd z (n : Int) + c) / 18446744073709551616 = E at *
  generalize (rd z (n : Int) + c) % 18446744073709551616 = r at *
  have er : r - rd z (n : Int) = c - 18446744073709551616 * E := by clear hs hu h0 h1 b0 b1; omega
  rw [er, Int.mul_sub] at b0 b1 ⊢
  clear er e
  generalize (B64 : Int) ^ n = P at *
  generalize q * vB B64 v = qV at *
  generalize P * c = Pc at *
  rcases he with rfl | rfl
  · simp only [Int.mul_zero, Int.sub_zero] at b0 b1 ⊢
    omega
  · simp only [Int.mul_one] at b0 b1 ⊢
    omega
theorem step_l2 {u v : List Int} {n : Nat} {q U : Int} (hn : v.length = n) (ln : n ≤ 1099511627776) (hv : Dig B64 v) (hl : u.length = n + 1) (hu : vB B64 u = U - q * vB B64 v + B64 ^ (n + 1)) (h0 : 0 ≤ U - (q - 1) * vB B64 v) (h1 : U - (q - 1) * vB B64 v < B64 ^ (n + 1)) (q0 : 1 ≤ q) (q1 : q < B64) :
    ∀ (d i : Nat) (z : List Int) (c : Int), i + d = n → AddBack u v z i c → ∃ r, r.length = n + 1 ∧ Dig B64 r ∧ vB B64 r = U - (q - 1) * vB B64 v ∧ Ev (fun k => exact_step.l2 k z v (n : Int) q c (n : Int) (i : Int)) (q - 1, r) := by
  intro d
  induction d with
  | zero =>
    intro i z c hi h
    have hi : i = n := by omega
    subst hi
    obtain ⟨g1, g2⟩ := back_last hn hl h hu h0 h1
    have hlz := h.1
    have c1 : (i : Int) < (z.length : Int) := by omega
    have q1' : q < 18446744073709551616 := q1
    have w1 : IntKind.u64.wrap (q - 1) = q - 1 := by clear hu h0 h1 g1; exact u64 (by omega) (by omega)
    refine ⟨_, by rw [List.length_set, hlz, hl], g2, g1, Ev.step (f := fun _ => some _) (fun k => ?_) (Ev.now _)⟩
    simp only [exact_step.l2, w1]
    rw [if_neg (Int.lt_irrefl _), if_pos (Int.natCast_nonneg _), if_pos c1, Int.toNat_natCast]
  | succ d ih =>
    intro i z c hi h
    have hi' : i < n := by omega
    have hlz := h.1
    have hiz : i < z.length := by omega
    have c0 : i + 1 + d = n := by omega
    have c1 : (i : Int) < (n : Int) := by omega
    have c2 : (i : Int) < (z.length : Int) := by omega
    have c3 : (i : Int) < (v.length : Int) := by omega
    obtain ⟨x0, x1⟩ := Dig_rd h.2.1 i hiz
    obtain ⟨y0, y1⟩ := Dig_rd hv i (by omega)
    have ea := add64_eq x0 y0 h.2.2.1.1 h.2.2.1.2
    have e1 : wrap64 ((i : Int) + 1) = ((i + 1 : Nat) : Int) := by clear hu h0 h1; rw [w64 (by omega) (by omega)]; omega
    obtain ⟨r, r1, r2, r3, r4⟩ := ih (i + 1) _ _ c0 (add_back hiz hv (by rw [hn]; exact hi') h)
    refine ⟨r, r1, r2, r3, Ev.step (fun k => ?_) r4⟩
    simp only [exact_step.l2, e1]
    rw [if_pos c1, if_pos (Int.natCast_nonneg _), if_pos c2, if_pos c3, ea, Option.bind_some, Int.toNat_natCast]
theorem sub_last {u v z : List Int} {n : Nat} {q b c d e : Int} (hn : v.length = n) (hl : u.length = n + 1) (h : SubMul u v z q n b c) (d0 : 0 ≤ d) (d1 : d < B64) (e0 : 0 ≤ e) (e1 : e ≤ 1) (he : d = rd z (n : Int) - c - b + B64 * e) :
    (z.set n d).length = n + 1 ∧ Dig B64 (z.set n d) ∧ vB B64 (z.set n d) = vB B64 u - q * vB B64 v + B64 ^ (n + 1) * e := by
  obtain ⟨hlz, hd, hb, hc, hs⟩ := h
  refine ⟨by rw [List.length_set, hlz, hl], Dig_set hd _ d0 d1, ?_⟩
  rw [vB_set _ _ _ _ (by omega), Int.pow_succ, he]
  rw [vB_all _ _ _ (by rw [hn]; exact Nat.le_refl _)] at hs
  have e2 : rd z (n : Int) - c - b + B64 * e - rd z (n : Int) = B64 * e - c - b := by clear hs; omega
  rw [e2, Int.mul_sub, Int.mul_sub, Int.mul_assoc (B64 ^ n) B64]
  rw [Int.mul_add] at hs
  generalize (B64 : Int) ^ n = P at *
  generalize P * (B64 * e) = A1 at *
  generalize P * c = A3 at *
  generalize P * b = A4 at *
  omega
theorem step_l1 {u v : List Int} {n : Nat} {q : Int} (hn : v.length = n) (ln : n ≤ 1099511627776) (hu : Dig B64 u) (hv : Dig B64 v) (hl : u.length = n + 1) (hV : 0 < vB B64 v) (q0 : 0 ≤ q) (q1 : q < B64)
    (hq : vB B64 u / vB B64 v ≤ q) (hq' : q ≤ vB B64 u / vB B64 v + 1) : ∀ (d i : Nat) (z : List Int) (b c : Int), i + d = n → SubMul u v z q i b c →
    ∃ r, r.length = n + 1 ∧ Dig B64 r ∧ vB B64 r = vB B64 u % vB B64 v ∧ Ev (fun k => exact_step.l1 k z v (n : Int) q b c (n : Int) (i : Int)) (vB B64 u / vB B64 v, r) := by
  have hB : (0 : Int) < B64 := by decide
  have hU0 := vB_nonneg (Int.le_of_lt hB) hu
  have hU1 := vB_lt hB hu
  have hV1 := vB_lt hB hv
  rw [hl] at hU1
  rw [hn] at hV1
  have hdm := Int.emod_add_mul_ediv (vB B64 u) (vB B64 v)
  have hm0 := Int.emod_nonneg (vB B64 u) (show vB B64 v ≠ 0 by omega)
  have hm1 := Int.emod_lt_of_pos (vB B64 u) hV
  have hp := pow_le_pow hB (show n ≤ n + 1 by omega)
  intro d
  induction d with
  | zero =>
    intro i z b c hi h
    have hi : i = n := by omega
    subst hi
    have hlz := h.1
    have c1 : (i : Int) < (z.length : Int) := by clear hU1 hV1 hp; omega
    obtain ⟨x0, x1⟩ := Dig_rd h.2.1 i (by clear hU1 hV1 hp; omega)
    obtain ⟨d, e, ea, d0, d1, b0, b1, he⟩ := sub64_eq x0 x1 h.2.2.2.1.1 h.2.2.2.1.2 h.2.2.1.1 h.2.2.1.2
    obtain ⟨g1, g2, g3⟩ := sub_last hn hl h d0 d1 b0 b1 he
    have hcase : e = 0 ∨ e = 1 := by clear hU1 hV1 hp g3; omega
    rcases hcase with rfl | rfl
    · rw [Int.mul_zero, Int.add_zero] at g3
      have g4 := vB_nonneg (Int.le_of_lt hB) g2
      rw [g3] at g4
      have hqe : q = vB B64 u / vB B64 v := by
        have : q ≤ vB B64 u / vB B64 v := Int.le_ediv_of_mul_le hV (by clear hU1 hV1 hp; omega)
        clear hU1 hV1 hp; omega
      refine ⟨z.set i d, g1, g2, ?_, Ev.step (f := fun _ => some _) (fun k => ?_) (Ev.now _)⟩
      · rw [g3, hqe]
        rw [Int.mul_comm] at hdm
        generalize vB B64 u / vB B64 v * vB B64 v = A at *
        clear hU1 hV1 hp; omega
      · simp only [exact_step.l1]
        rw [if_neg (Int.lt_irrefl _), if_pos (Int.natCast_nonneg _), if_pos c1, ea, Option.bind_some, Option.bind_some, if_pos rfl, Int.toNat_natCast, ← hqe]
    · rw [Int.mul_one] at g3
      have g4 := vB_lt hB g2
      rw [g1, g3] at g4
      have hqe : vB B64 u / vB B64 v = q - 1 := by
        have : vB B64 u / vB B64 v < q := Int.ediv_lt_of_lt_mul hV (by
          generalize (B64 : Int) ^ (i + 1) = P at *
          omega)
        clear hU1 hV1 hp g4 g3; omega
      have hre : vB B64 u - (q - 1) * vB B64 v = vB B64 u % vB B64 v := by
        rw [hqe, Int.mul_comm] at hdm
        generalize (q - 1) * vB B64 v = A at *
        clear hU1 hV1 hp g4 g3; omega
      have hq00 : 0 ≤ vB B64 u / vB B64 v := Int.ediv_nonneg hU0 (Int.le_of_lt hV)
      have hq01 : 1 ≤ q := by clear hU1 hV1 hp g4 g3; omega
      obtain ⟨r, r1, r2, r3, r4⟩ := step_l2 (u := z.set i d) (U := vB B64 u) hn ln hv g1 g3 (by rw [hre]; exact hm0) (by rw [hre]; exact Int.lt_trans hm1 (Int.lt_of_lt_of_le hV1 hp)) hq01 q1 i 0 (z.set i d) 0 (Nat.zero_add _) ⟨rfl, g2, ⟨by decide, by decide⟩, by simp [vB]⟩
      refine ⟨r, r1, r2, by rw [r3, hre], ?_⟩
      rw [hqe]
      refine Ev.step (f := fun k => exact_step.l2 k (z.set i d) v (i : Int) q 0 (i : Int) ((0 : Nat) : Int)) (fun k => ?_) r4
      simp only [exact_step.l1]
      rw [if_neg (Int.lt_irrefl _), if_pos (Int.natCast_nonneg _), if_pos c1, ea, Option.bind_some, Option.bind_some, if_neg (show ¬ (1 : Int) = 0 by decide), Int.toNat_natCast]
      rfl
  | succ d ih =>
    intro i z b c hi h
    have hlz := h.1
    have hi' : i < n := by clear hU1 hV1 hp; omega
    have hiz : i < z.length := by clear hU1 hV1 hp; omega
    have c0 : i + 1 + d = n := by clear hU1 hV1 hp; omega
    have c1 : (i : Int) < (n : Int) := Int.ofNat_lt.2 hi'
    have c2 : (i : Int) < (z.length : Int) := Int.ofNat_lt.2 hiz
    have c3 : (i : Int) < (v.length : Int) := by rw [hn]; exact c1
    have hiv : i < v.length := by rw [hn]; exact hi'
    obtain ⟨x0, x1⟩ := Dig_rd h.2.1 i hiz
    obtain ⟨y0, y1⟩ := Dig_rd hv i hiv
    have hc := h.2.2.2.1
    have hb := h.2.2.1
    obtain ⟨m0, m1, n0, n1⟩ := mul_add q0 q1 y0 y1 (Int.le_refl 0) hB hc.1 hc.2
    have a1 := mul64_eq q0 q1 y0 y1
    have a2 := add64_eq (Int.emod_nonneg (q * rd v (i : Int)) (show (B64 : Int) ≠ 0 by decide)) hc.1 (Int.le_refl 0) (by decide)
    have l0 := Int.emod_nonneg (q * rd v (i : Int) + 0 + c) (show (B64 : Int) ≠ 0 by decide)
    have l1 := Int.emod_lt_of_pos (q * rd v (i : Int) + 0 + c) (show (0 : Int) < B64 by decide)
    obtain ⟨d, e, ea, d0, d1, b0, b1, he⟩ := sub64_eq x0 x1 l0 l1 hb.1 hb.2
    have e1 : wrap64 ((i : Int) + 1) = ((i + 1 : Nat) : Int) := by clear hU1 hV1 hp a1 a2 m0 m1 ea he hdm; rw [w64 (by omega) (by omega)]; omega
    have e2 : (q * rd v (i : Int) % B64 + c + 0) % B64 = (q * rd v (i : Int) + 0 + c) % B64 ∧ IntKind.u64.wrap (q * rd v (i : Int) / B64 + (q * rd v (i : Int) % B64 + c + 0) / B64) = (q * rd v (i : Int) + 0 + c) / B64 := by
      clear hU1 hV1 hp a1 a2 ea he hdm m0 m1
      have hc2 : c < 18446744073709551616 := hc.2
      have n0' : 0 ≤ (q * rd v (i : Int) + 0 + c) / 18446744073709551616 := n0
      have n1' : (q * rd v (i : Int) + 0 + c) / 18446744073709551616 < 18446744073709551616 := n1
      have hc1 := hc.1
      show (q * rd v (i : Int) % 18446744073709551616 + c + 0) % 18446744073709551616 = (q * rd v (i : Int) + 0 + c) % 18446744073709551616 ∧ IntKind.u64.wrap (q * rd v (i : Int) / 18446744073709551616 + (q * rd v (i : Int) % 18446744073709551616 + c + 0) / 18446744073709551616) = (q * rd v (i : Int) + 0 + c) / 18446744073709551616
      generalize q * rd v (i : Int) = p at *
      have e3 : p / 18446744073709551616 + (p % 18446744073709551616 + c + 0) / 18446744073709551616 = (p + 0 + c) / 18446744073709551616 := by omega
      rw [e3, u64 n0' n1']
      exact ⟨by omega, rfl⟩
    obtain ⟨r, r1, r2, r3, r4⟩ := ih (i + 1) _ _ _ c0 (sub_mul hiz q0 q1 hv hiv h d0 d1 b0 b1 he)
    refine ⟨r, r1, r2, r3, Ev.step (fun k => ?_) r4⟩
    simp only [exact_step.l1, e1]
    rw [if_pos c1, if_pos (Int.natCast_nonneg _), if_pos c3, a1, Option.bind_some, a2, Option.bind_some, if_pos c2, e2.1, ea, Option.bind_some, e2.2, Int.toNat_natCast]
end Go.Proofs.YtohkmnbnjacfaaaN
set_option linter.unusedVariables false
namespace Go.Proofs.YtohkmnbnjacfaaaN
open Go.RowKit Go.Proofs.Ytohkmnbnjacfaaa.All Go.Proofs.YtohkmnbnjacfaaaW.PrintWords Go.Proofs.YtohkmnbnjacfaaaW.PrintLast Go.Proofs.YtohkmnbnjacfaaaW.PrintMore
theorem split2 {v : List Int} {n : Nat} (hv : Dig B64 v) (hn : v.length = n + 2) : ∃ l, 0 ≤ l ∧ l < B64 ^ n ∧ vB B64 v = l + B64 ^ n * (rd v (n : Int) + B64 * rd v ((n + 1 : Nat) : Int)) := by
  refine ⟨vB B64 (v.take n), vB_nonneg (by decide) (Dig_take hv _), ?_, ?_⟩
  · have := vB_lt (by decide) (Dig_take hv n)
    rwa [List.length_take, Nat.min_eq_left (by omega)] at this
  · have h := vB_all B64 v (n + 1 + 1) (by omega)
    rw [← h, take_succ, take_succ, Int.pow_succ, Int.mul_add, Int.mul_assoc, Int.add_assoc]
theorem split3 {u : List Int} {n : Nat} (hu : Dig B64 u) (hn : u.length = n + 3) : ∃ l, 0 ≤ l ∧ l < B64 ^ n ∧ vB B64 u = l + B64 ^ n * (rd u (n : Int) + B64 * (rd u ((n + 1 : Nat) : Int) + B64 * rd u ((n + 2 : Nat) : Int))) := by
  refine ⟨vB B64 (u.take n), vB_nonneg (by decide) (Dig_take hu _), ?_, ?_⟩
  · have := vB_lt (by decide) (Dig_take hu n)
    rwa [List.length_take, Nat.min_eq_left (by omega)] at this
  · have h := vB_all B64 u (n + 1 + 1 + 1) (by omega)
    have p1 : (B64 : Int) ^ (n + 1) = B64 ^ n * B64 := Int.pow_succ _ _
    have p2 : (B64 : Int) ^ (n + 1 + 1) = B64 ^ n * B64 * B64 := by rw [Int.pow_succ, p1]
    rw [← h, take_succ, take_succ, take_succ, p2, p1, Int.mul_add B64, Int.mul_add (B64 ^ n), Int.mul_add (B64 ^ n), Int.mul_assoc (B64 ^ n) B64 (rd u _), Int.mul_assoc (B64 ^ n * B64) B64, Int.mul_assoc (B64 ^ n) B64 (B64 * _)]
    generalize B64 ^ n * rd u (n : Int) = a
    generalize B64 ^ n * (B64 * rd u ((n + 1 : Nat) : Int)) = b
    generalize B64 ^ n * (B64 * (B64 * rd u ((n + 2 : Nat) : Int))) = c
    omega
section
theorem guess_le {P lv lu W X q U V : Int} (hP : 0 < P) (lv0 : 0 ≤ lv) (lv1 : lv < P) (lu0 : 0 ≤ lu) (hV : V = lv + P * W) (hU : U = lu + P * X) (hW : B64 ≤ W) (q0 : 0 ≤ q) (q1 : q < B64) (h : q * W ≤ X) : q ≤ U / V + 1 := by
  have hV0 : 0 < V := by
    have : 0 < P * W := Int.mul_pos hP (Int.lt_of_lt_of_le (by decide) hW)
    omega
  have h1 : q * V < U + V := by
    have e1 : q * V = q * lv + P * (q * W) := by rw [hV, Int.mul_add, Int.mul_left_comm]
    have e2 : P * (q * W) ≤ P * X := Int.mul_le_mul_of_nonneg_left h (Int.le_of_lt hP)
    have e3 : q * lv ≤ q * P := Int.mul_le_mul_of_nonneg_left (Int.le_of_lt lv1) q0
    have e4 : q * P < B64 * P := Int.mul_lt_mul_of_pos_right q1 hP
    have e5 : P * B64 ≤ P * W := Int.mul_le_mul_of_nonneg_left hW (Int.le_of_lt hP)
    rw [Int.mul_comm B64 P] at e4
    omega
  have h2 : (q - 1) * V ≤ U := by rw [Int.sub_mul, Int.one_mul]; omega
  have := Int.le_ediv_of_mul_le hV0 h2
  omega
theorem guess_gt {P lv lu W X q U V : Int} (hP : 0 < P) (lv0 : 0 ≤ lv) (lu1 : lu < P) (hV : V = lv + P * W) (hU : U = lu + P * X) (hV0 : 0 < V) (q0 : 0 ≤ q) (h : X < q * W) : U / V ≤ q - 1 := by
  have : U / V < q := by
    apply Int.ediv_lt_of_lt_mul hV0
    have e1 : q * V = q * lv + P * (q * W) := by rw [hV, Int.mul_add, Int.mul_left_comm]
    have e2 : P * (X + 1) ≤ P * (q * W) := Int.mul_le_mul_of_nonneg_left (by omega) (Int.le_of_lt hP)
    rw [Int.mul_add, Int.mul_one] at e2
    have e3 : 0 ≤ q * lv := Int.mul_nonneg q0 lv0
    omega
  omega
end
theorem l0_pass {u v : List Int} {n : Nat} {q r o : Int} (hn : v.length = n + 2) (hl : u.length = n + 3) (ew : wrap64 (((n + 2 : Nat) : Int) - 2) = ((n : Nat) : Int)) (q0 : 0 ≤ q) (q1 : q < B64) (w0 : 0 ≤ rd v (n : Int)) (w1 : rd v (n : Int) < B64) (t0 : 0 ≤ rd u (n : Int)) (t1 : rd u (n : Int) < B64)
    (h : o = 1 ∨ o = 0 ∧ q * rd v (n : Int) ≤ B64 * r + rd u (n : Int)) (k : Nat) : exact_step.l0 (k + 1) u v ((n + 2 : Nat) : Int) q r o = exact_step.j2 k u v ((n + 2 : Nat) : Int) q := by
  rcases h with rfl | ⟨rfl, h⟩
  · simp only [exact_step.l0]
    rw [if_neg (show ¬ (1 : Int) = 0 by decide)]
  · have c1 : (n : Int) < (v.length : Int) := by clear h ew; omega
    have c2 : (n : Int) < (u.length : Int) := by clear h ew; omega
    have t1' : rd u (n : Int) < 18446744073709551616 := t1
    have h' : q * rd v (n : Int) ≤ 18446744073709551616 * r + rd u (n : Int) := h
    have e := Int.emod_add_mul_ediv (q * rd v (n : Int)) 18446744073709551616
    have m0 := Int.emod_nonneg (q * rd v (n : Int)) (show (18446744073709551616 : Int) ≠ 0 by decide)
    have g : q * rd v (n : Int) / 18446744073709551616 < r ∨ q * rd v (n : Int) / 18446744073709551616 = r ∧ q * rd v (n : Int) % 18446744073709551616 ≤ rd u (n : Int) := by clear h ew; omega
    have a1 := mul64_eq q0 q1 w0 w1
    simp only [exact_step.l0, ew]
    rw [if_pos trivial, if_pos (Int.natCast_nonneg _), if_pos c1, a1, Option.bind_some]
    rcases g with g | ⟨g1, g2⟩
    · rw [if_pos g]
    · rw [if_neg (show ¬ q * rd v (n : Int) / 18446744073709551616 < r by clear h ew; omega), if_pos g1, if_pos c2, if_pos g2]
theorem l0_fail {u v : List Int} {n : Nat} {q r : Int} (hn : v.length = n + 2) (hl : u.length = n + 3) (ew : wrap64 (((n + 2 : Nat) : Int) - 2) = ((n : Nat) : Int)) (ew1 : wrap64 (((n + 2 : Nat) : Int) - 1) = ((n + 1 : Nat) : Int)) (q0 : 1 ≤ q) (q1 : q < B64) (r0 : 0 ≤ r) (w0 : 0 ≤ rd v (n : Int)) (w1 : rd v (n : Int) < B64) (t0 : 0 ≤ rd u (n : Int)) (t1 : rd u (n : Int) < B64) (y0 : 0 ≤ rd v ((n + 1 : Nat) : Int))
    (h : ¬ q * rd v (n : Int) ≤ B64 * r + rd u (n : Int)) (k : Nat) : exact_step.l0 (k + 1) u v ((n + 2 : Nat) : Int) q r 0 = exact_step.l0 k u v ((n + 2 : Nat) : Int) (q - 1) ((r + rd v ((n + 1 : Nat) : Int) + 0) % B64) ((r + rd v ((n + 1 : Nat) : Int) + 0) / B64) := by
  have c1 : (n : Int) < (v.length : Int) := by clear h ew ew1; omega
  have c2 : (n : Int) < (u.length : Int) := by clear h ew ew1; omega
  have c3 : ((n + 1 : Nat) : Int) < (v.length : Int) := by clear h ew ew1; omega
  have t1' : rd u (n : Int) < 18446744073709551616 := t1
  have q1' : q < 18446744073709551616 := q1
  have h' : ¬ q * rd v (n : Int) ≤ 18446744073709551616 * r + rd u (n : Int) := h
  have e := Int.emod_add_mul_ediv (q * rd v (n : Int)) 18446744073709551616
  have m0 := Int.emod_lt_of_pos (q * rd v (n : Int)) (show (0 : Int) < 18446744073709551616 by decide)
  have g1 : ¬ q * rd v (n : Int) / 18446744073709551616 < r := by clear h ew ew1; omega
  have g2 : q * rd v (n : Int) / 18446744073709551616 = r → ¬ q * rd v (n : Int) % 18446744073709551616 ≤ rd u (n : Int) := by clear h ew ew1; omega
  have a1 := mul64_eq (show 0 ≤ q by omega) q1 w0 w1
  have a2 := add64_eq r0 y0 (Int.le_refl 0) (by decide)
  have wq : IntKind.u64.wrap (q - 1) = q - 1 := by clear h h' ew ew1 g1 g2 e; exact u64 (by omega) (by omega)
  conv => lhs; simp only [exact_step.l0, ew, ew1, wq]
  rw [if_pos trivial, if_pos (Int.natCast_nonneg _), if_pos c1, a1, Option.bind_some, if_neg g1]
  by_cases g3 : q * rd v (n : Int) / 18446744073709551616 = r
  · rw [if_pos g3, if_pos c2, if_neg (g2 g3), if_pos (Int.natCast_nonneg _), if_pos c3, a2, Option.bind_some]
  · rw [if_neg g3, if_pos (Int.natCast_nonneg _), if_pos c3, a2, Option.bind_some]
theorem step_l0 {u v : List Int} {n : Nat} (hn : v.length = n + 2) (ln : n ≤ 1099511627000) (hu : Dig B64 u) (hv : Dig B64 v) (hl : u.length = n + 3) (ht : rd v ((n + 1 : Nat) : Int) ≠ 0) :
    ∀ (d : Nat) (q r o : Int), q = vB B64 u / vB B64 v + d → 0 ≤ q → q < B64 → 0 ≤ r → r < B64 → (o = 0 ∨ o = 1) → q * rd v ((n + 1 : Nat) : Int) + (r + B64 * o) = rd u ((n + 1 : Nat) : Int) + B64 * rd u ((n + 2 : Nat) : Int) →
    ∃ z, z.length = n + 3 ∧ Dig B64 z ∧ vB B64 z = vB B64 u % vB B64 v ∧ Ev (fun k => exact_step.l0 k u v ((n + 2 : Nat) : Int) q r o) (vB B64 u / vB B64 v, z) := by
  have hB : (0 : Int) < B64 := by decide
  obtain ⟨lv, lv0, lv1, eV⟩ := split2 hv hn
  obtain ⟨lu, lu0, lu1, eU⟩ := split3 hu hl
  have hP : (0 : Int) < B64 ^ n := Int.pow_pos hB
  obtain ⟨y0, y1⟩ := Dig_rd hv (n + 1) (by clear lv1 lu1 eV eU; omega)
  obtain ⟨w0, w1⟩ := Dig_rd hv n (by clear lv1 lu1 eV eU; omega)
  obtain ⟨t0, t1⟩ := Dig_rd hu n (by clear lv1 lu1 eV eU; omega)
  have hW : B64 ≤ rd v (n : Int) + B64 * rd v ((n + 1 : Nat) : Int) := by
    have : B64 * 1 ≤ B64 * rd v ((n + 1 : Nat) : Int) := Int.mul_le_mul_of_nonneg_left (by clear lv1 lu1 eV eU; omega) (Int.le_of_lt hB)
    rw [Int.mul_one] at this
    clear lv1 lu1 eV eU; omega
  have hV0 : 0 < vB B64 v := by
    have : 0 < B64 ^ n * (rd v (n : Int) + B64 * rd v ((n + 1 : Nat) : Int)) := Int.mul_pos hP (Int.lt_of_lt_of_le hB hW)
    generalize B64 ^ n * (rd v (n : Int) + B64 * rd v ((n + 1 : Nat) : Int)) = A at *
    clear lv1 lu1 eU; omega
  have hQ0 : 0 ≤ vB B64 u / vB B64 v := Int.ediv_nonneg (vB_nonneg (Int.le_of_lt hB) hu) (Int.le_of_lt hV0)
  have ew : wrap64 (((n + 2 : Nat) : Int) - 2) = ((n : Nat) : Int) := by clear lv1 lu1 eV eU; rw [w64 (by omega) (by omega)]; omega
  have ew1 : wrap64 (((n + 2 : Nat) : Int) - 1) = ((n + 1 : Nat) : Int) := by clear lv1 lu1 eV eU ew; rw [w64 (by omega) (by omega)]; omega
  have done : ∀ q : Int, vB B64 u / vB B64 v ≤ q → 0 ≤ q → q < B64 → q * (rd v (n : Int) + B64 * rd v ((n + 1 : Nat) : Int)) ≤ rd u (n : Int) + B64 * (rd u ((n + 1 : Nat) : Int) + B64 * rd u ((n + 2 : Nat) : Int)) →
      ∃ z, z.length = n + 3 ∧ Dig B64 z ∧ vB B64 z = vB B64 u % vB B64 v ∧ Ev (fun k => exact_step.j2 k u v ((n + 2 : Nat) : Int) q) (vB B64 u / vB B64 v, z) := by
    intro q g1 q0 q1 g2
    have g3 := guess_le hP lv0 lv1 lu0 eV eU hW q0 q1 g2
    obtain ⟨z, z1, z2, z3, z4⟩ := step_l1 hn (by clear lv1 lu1 eV eU ew ew1; omega) hu hv hl hV0 q0 q1 g1 g3 (n + 2) 0 u 0 0 (Nat.zero_add _) ⟨rfl, hu, ⟨by decide, by decide⟩, ⟨by decide, hB⟩, by simp [vB]⟩
    exact ⟨z, z1, z2, z3, Ev.step (f := fun k => exact_step.l1 k u v ((n + 2 : Nat) : Int) q 0 0 ((n + 2 : Nat) : Int) ((0 : Nat) : Int)) (fun k => rfl) z4⟩
  have test : ∀ q r : Int, q * rd v ((n + 1 : Nat) : Int) + r = rd u ((n + 1 : Nat) : Int) + B64 * rd u ((n + 2 : Nat) : Int) → (q * rd v (n : Int) ≤ B64 * r + rd u (n : Int) ↔ q * (rd v (n : Int) + B64 * rd v ((n + 1 : Nat) : Int)) ≤ rd u (n : Int) + B64 * (rd u ((n + 1 : Nat) : Int) + B64 * rd u ((n + 2 : Nat) : Int))) := by
    intro q r he
    rw [← he, Int.mul_add q, Int.mul_left_comm q B64, Int.mul_add B64]
    generalize q * rd v ((n + 1 : Nat) : Int) = a
    generalize q * rd v (n : Int) = b
    clear lv1 lu1 eV eU ew ew1
    omega
  intro d
  induction d with
  | zero =>
    intro q r o hq q0 q1 r0 r1 ho he
    have hq : vB B64 u / vB B64 v = q := by omega
    have hle : q * rd v (n : Int) ≤ B64 * (r + B64 * o) + rd u (n : Int) := by
      rw [test q (r + B64 * o) he]
      rcases Int.lt_or_le (rd u (n : Int) + B64 * (rd u ((n + 1 : Nat) : Int) + B64 * rd u ((n + 2 : Nat) : Int))) (q * (rd v (n : Int) + B64 * rd v ((n + 1 : Nat) : Int))) with h | h
      · have := guess_gt hP lv0 lu1 eV eU hV0 q0 h
        omega
      · exact h
    obtain ⟨z, z1, z2, z3, z4⟩ := done q (by omega) q0 q1 ((test q _ he).1 hle)
    refine ⟨z, z1, z2, z3, Ev.step (fun k => l0_pass hn hl ew q0 q1 w0 w1 t0 t1 ?_ k) z4⟩
    rcases ho with rfl | rfl
    · right
      rw [Int.mul_zero, Int.add_zero] at hle
      exact ⟨rfl, hle⟩
    · exact Or.inl rfl
  | succ d ih =>
    intro q r o hq q0 q1 r0 r1 ho he
    by_cases hp : o = 1 ∨ o = 0 ∧ q * rd v (n : Int) ≤ B64 * r + rd u (n : Int)
    · have hle : q * rd v (n : Int) ≤ B64 * (r + B64 * o) + rd u (n : Int) := by
        rcases hp with rfl | ⟨rfl, h⟩
        · have q1' : q < 18446744073709551616 := q1
          have w1' : rd v (n : Int) < 18446744073709551616 := w1
          have h1 := mul_range q0 (show q ≤ 18446744073709551615 by omega) w0 (show rd v (n : Int) ≤ 18446744073709551615 by omega)
          have h2 : (18446744073709551615 : Int) * 18446744073709551615 = 340282366920938463426481119284349108225 := rfl
          have h3 : (B64 : Int) * (B64 * 1) = 340282366920938463463374607431768211456 := rfl
          rw [h2] at h1
          rw [Int.mul_add, h3]
          have h4 : 0 ≤ B64 * r := Int.mul_nonneg (by decide) r0
          clear lv1 lu1 eV eU ew ew1
          omega
        · rw [Int.mul_zero, Int.add_zero]
          exact h
      obtain ⟨z, z1, z2, z3, z4⟩ := done q (by omega) q0 q1 ((test q _ he).1 hle)
      exact ⟨z, z1, z2, z3, Ev.step (fun k => l0_pass hn hl ew q0 q1 w0 w1 t0 t1 hp k) z4⟩
    · have ho : o = 0 := by
        rcases ho with h | h
        · exact h
        · exact absurd (Or.inl h) hp
      subst ho
      have hp' : ¬ q * rd v (n : Int) ≤ B64 * r + rd u (n : Int) := fun h => hp (Or.inr ⟨rfl, h⟩)
      have hov := add_range r0 r1 y0 y1 (Int.le_refl 0) (by decide)
      have he2 := Int.emod_add_mul_ediv (r + rd v ((n + 1 : Nat) : Int) + 0) B64
      obtain ⟨z, z1, z2, z3, z4⟩ := ih (q - 1) ((r + rd v ((n + 1 : Nat) : Int) + 0) % B64) ((r + rd v ((n + 1 : Nat) : Int) + 0) / B64) (by omega) (by omega) (by omega) (Int.emod_nonneg _ (by decide)) (Int.emod_lt_of_pos _ hB) (by omega) (by
        rw [he2, Int.sub_mul, Int.one_mul]
        rw [Int.mul_zero] at he
        clear lv1 lu1 eV eU ew ew1 hp hp' hov he2
        omega)
      exact ⟨z, z1, z2, z3, Ev.step (fun k => l0_fail hn hl ew ew1 (by omega) q1 r0 w0 w1 t0 t1 y0 hp' k) z4⟩
theorem step_ev {u v : List Int} {n : Nat} (hn : v.length = n + 2) (ln : n ≤ 1099511627000) (hu : Dig B64 u) (hv : Dig B64 v) (hl : u.length = n + 3) (ht : rd v ((n + 1 : Nat) : Int) ≠ 0) (hlt : vB B64 u < vB B64 v * B64) :
    ∃ z, z.length = n + 3 ∧ Dig B64 z ∧ vB B64 z = vB B64 u % vB B64 v ∧ Ev (fun k => exact_step.f k u v) (vB B64 u / vB B64 v, z) := by
  have hB : (0 : Int) < B64 := by decide
  obtain ⟨lv, lv0, lv1, eV⟩ := split2 hv hn
  obtain ⟨lu, lu0, lu1, eU⟩ := split3 hu hl
  have hP : (0 : Int) < B64 ^ n := Int.pow_pos hB
  obtain ⟨y0, y1⟩ := Dig_rd hv (n + 1) (by clear lv1 lu1 eV eU; omega)
  obtain ⟨w0, w1⟩ := Dig_rd hv n (by clear lv1 lu1 eV eU; omega)
  obtain ⟨t0, t1⟩ := Dig_rd hu n (by clear lv1 lu1 eV eU; omega)
  obtain ⟨p0, p1⟩ := Dig_rd hu (n + 1) (by clear lv1 lu1 eV eU; omega)
  obtain ⟨x0, x1⟩ := Dig_rd hu (n + 2) (by clear lv1 lu1 eV eU; omega)
  have y2 : 1 ≤ rd v ((n + 1 : Nat) : Int) := by clear lv1 lu1 eV eU; omega
  have hW : B64 ≤ rd v (n : Int) + B64 * rd v ((n + 1 : Nat) : Int) := by
    have : B64 * 1 ≤ B64 * rd v ((n + 1 : Nat) : Int) := Int.mul_le_mul_of_nonneg_left y2 (Int.le_of_lt hB)
    rw [Int.mul_one] at this
    clear lv1 lu1 eV eU; omega
  have hV0 : 0 < vB B64 v := by
    have : 0 < B64 ^ n * (rd v (n : Int) + B64 * rd v ((n + 1 : Nat) : Int)) := Int.mul_pos hP (Int.lt_of_lt_of_le hB hW)
    generalize B64 ^ n * (rd v (n : Int) + B64 * rd v ((n + 1 : Nat) : Int)) = A at *
    clear lv1 lu1 eU; omega
  have hQ0 : 0 ≤ vB B64 u / vB B64 v := Int.ediv_nonneg (vB_nonneg (Int.le_of_lt hB) hu) (Int.le_of_lt hV0)
  have hQ1 : vB B64 u / vB B64 v < B64 := Int.ediv_lt_of_lt_mul hV0 (by rw [Int.mul_comm]; exact hlt)
  have hX : (vB B64 u / vB B64 v) * rd v ((n + 1 : Nat) : Int) ≤ rd u ((n + 1 : Nat) : Int) + B64 * rd u ((n + 2 : Nat) : Int) := by
    have h1 := Int.ediv_mul_le (vB B64 u) (show vB B64 v ≠ 0 by clear lv1 lu1 eV eU; omega)
    generalize vB B64 u / vB B64 v = Q at *
    rw [eV, eU] at h1
    have e1 : Q * (lv + B64 ^ n * (rd v (n : Int) + B64 * rd v ((n + 1 : Nat) : Int))) = Q * lv + Q * (B64 ^ n * rd v (n : Int)) + B64 ^ n * (B64 * (Q * rd v ((n + 1 : Nat) : Int))) := by
      rw [Int.mul_add Q, Int.mul_add (B64 ^ n), Int.mul_add Q, Int.mul_left_comm Q (B64 ^ n) (B64 * _), Int.mul_left_comm Q B64, Int.add_assoc]
    rw [e1] at h1
    have h2 : 0 ≤ Q * lv := Int.mul_nonneg hQ0 lv0
    have h3 : 0 ≤ Q * (B64 ^ n * rd v (n : Int)) := Int.mul_nonneg hQ0 (Int.mul_nonneg (Int.le_of_lt hP) w0)
    rcases Int.lt_or_le (rd u ((n + 1 : Nat) : Int) + B64 * rd u ((n + 2 : Nat) : Int)) (Q * rd v ((n + 1 : Nat) : Int)) with h | h
    · exfalso
      have h4 : B64 * (rd u ((n + 1 : Nat) : Int) + B64 * rd u ((n + 2 : Nat) : Int) + 1) ≤ B64 * (Q * rd v ((n + 1 : Nat) : Int)) := Int.mul_le_mul_of_nonneg_left (by clear lv1 lu1 eV eU h1 e1; omega) (Int.le_of_lt hB)
      have h5 := Int.mul_le_mul_of_nonneg_left h4 (Int.le_of_lt hP)
      have h6 : B64 ^ n * (rd u (n : Int) + 1) ≤ B64 ^ n * B64 := Int.mul_le_mul_of_nonneg_left (by clear lv1 lu1 eV eU h1 e1 h5; omega) (Int.le_of_lt hP)
      rw [Int.mul_add B64, Int.mul_one, Int.mul_add (B64 ^ n)] at h5
      rw [Int.mul_add (B64 ^ n) (rd u (n : Int)), Int.mul_one] at h6
      rw [Int.mul_add (B64 ^ n) (rd u (n : Int))] at h1
      generalize B64 ^ n * (B64 * (rd u ((n + 1 : Nat) : Int) + B64 * rd u ((n + 2 : Nat) : Int))) = A at *
      generalize B64 ^ n * (B64 * (Q * rd v ((n + 1 : Nat) : Int))) = A1 at *
      generalize B64 ^ n * rd u (n : Int) = A2 at *
      generalize B64 ^ n * B64 = A3 at *
      generalize (B64 : Int) ^ n = P at *
      clear eV eU e1 hV0 hQ1
      omega
    · exact h
  have ew1 : wrap64 (((n + 2 : Nat) : Int) - 1) = ((n + 1 : Nat) : Int) := by clear lv1 lu1 eV eU; rw [w64 (by omega) (by omega)]; omega
  have c1 : ((n + 2 : Nat) : Int) < (u.length : Int) := by clear lv1 lu1 eV eU ew1; omega
  have c2 : ((n + 1 : Nat) : Int) < (v.length : Int) := by clear lv1 lu1 eV eU ew1; omega
  have c3 : ((n + 1 : Nat) : Int) < (u.length : Int) := by clear lv1 lu1 eV eU ew1; omega
  have ev : (v.length : Int) = ((n + 2 : Nat) : Int) := by clear lv1 lu1 eV eU ew1; omega
  by_cases hc : rd u ((n + 2 : Nat) : Int) ≥ rd v ((n + 1 : Nat) : Int)
  ·
    have heq : rd u ((n + 2 : Nat) : Int) = rd v ((n + 1 : Nat) : Int) := by
      rcases Int.lt_or_le (rd v ((n + 1 : Nat) : Int)) (rd u ((n + 2 : Nat) : Int)) with h | h
      · exfalso
        have g1 : B64 * (rd v ((n + 1 : Nat) : Int) + 1) ≤ B64 * rd u ((n + 2 : Nat) : Int) := Int.mul_le_mul_of_nonneg_left (by clear lv1 lu1 eV eU; omega) (Int.le_of_lt hB)
        rw [Int.mul_add, Int.mul_one] at g1
        have g2 : rd v (n : Int) + B64 * rd v ((n + 1 : Nat) : Int) + 1 ≤ rd u ((n + 1 : Nat) : Int) + B64 * rd u ((n + 2 : Nat) : Int) := by clear lv1 lu1 eV eU; omega
        have g3 : B64 * (rd v (n : Int) + B64 * rd v ((n + 1 : Nat) : Int) + 1) ≤ B64 * (rd u ((n + 1 : Nat) : Int) + B64 * rd u ((n + 2 : Nat) : Int)) := Int.mul_le_mul_of_nonneg_left g2 (Int.le_of_lt hB)
        have g4 := Int.mul_le_mul_of_nonneg_left g3 (Int.le_of_lt hP)
        rw [eV, eU, Int.add_mul, Int.mul_add (B64 ^ n) (rd u (n : Int))] at hlt
        have g5 : 0 ≤ B64 ^ n * rd u (n : Int) := Int.mul_nonneg (Int.le_of_lt hP) t0
        have g6 : lv * B64 < B64 ^ n * B64 := Int.mul_lt_mul_of_pos_right lv1 hB
        rw [Int.mul_add B64, Int.mul_one, Int.mul_add (B64 ^ n)] at g4
        have e2 : B64 ^ n * (rd v (n : Int) + B64 * rd v ((n + 1 : Nat) : Int)) * B64 = B64 ^ n * (B64 * (rd v (n : Int) + B64 * rd v ((n + 1 : Nat) : Int))) := by rw [Int.mul_assoc, Int.mul_comm _ B64]
        rw [e2] at hlt
        generalize B64 ^ n * (B64 * (rd u ((n + 1 : Nat) : Int) + B64 * rd u ((n + 2 : Nat) : Int))) = A at *
        generalize B64 ^ n * (B64 * (rd v (n : Int) + B64 * rd v ((n + 1 : Nat) : Int))) = A1 at *
        generalize B64 ^ n * rd u (n : Int) = A2 at *
        generalize B64 ^ n * B64 = A3 at *
        generalize lv * B64 = A4 at *
        clear eV eU e2 hV0 hQ1 hX lv1 lu1
        omega
      · clear lv1 lu1 eV eU; omega
    have a2 := add64_eq p0 y0 (Int.le_refl 0) (by decide)
    have hov := add_range p0 p1 y0 y1 (Int.le_refl 0) (by decide)
    have he2 := Int.emod_add_mul_ediv (rd u ((n + 1 : Nat) : Int) + rd v ((n + 1 : Nat) : Int) + 0) B64
    have hd : (18446744073709551615 : Int) = vB B64 u / vB B64 v + ((18446744073709551615 - vB B64 u / vB B64 v).toNat : Nat) := by
      have : vB B64 u / vB B64 v < 18446744073709551616 := hQ1
      clear lv1 lu1 eV eU; omega
    obtain ⟨z, z1, z2, z3, z4⟩ := step_l0 hn ln hu hv hl ht _ 18446744073709551615 _ _ hd (by decide) (by decide) (Int.emod_nonneg _ (by decide)) (Int.emod_lt_of_pos _ hB) (show (rd u ((n + 1 : Nat) : Int) + rd v ((n + 1 : Nat) : Int) + 0) / B64 = 0 ∨ (rd u ((n + 1 : Nat) : Int) + rd v ((n + 1 : Nat) : Int) + 0) / B64 = 1 by clear lv1 lu1 eV eU; omega) (by
      rw [he2, heq]
      show 18446744073709551615 * rd v ((n + 1 : Nat) : Int) + (rd u ((n + 1 : Nat) : Int) + rd v ((n + 1 : Nat) : Int) + 0) = rd u ((n + 1 : Nat) : Int) + 18446744073709551616 * rd v ((n + 1 : Nat) : Int)
      clear lv1 lu1 eV eU; omega)
    refine ⟨z, z1, z2, z3, Ev.congr (fun k => ?_) (Ev.step (f := _) (fun k => rfl) z4 : Ev (fun k => exact_step.j0 k u v ((n + 2 : Nat) : Int) 18446744073709551615 ((rd u ((n + 1 : Nat) : Int) + rd v ((n + 1 : Nat) : Int) + 0) % B64) ((rd u ((n + 1 : Nat) : Int) + rd v ((n + 1 : Nat) : Int) + 0) / B64)) _)⟩
    unfold exact_step.f
    rw [ev, ew1, if_pos (Int.natCast_nonneg _), if_pos c1, if_pos (Int.natCast_nonneg _), if_pos (by rw [← ev]; exact c2), if_pos hc, if_pos c3, a2, Option.bind_some]
  · have hq := div64_ev x0 (show rd u ((n + 2 : Nat) : Int) < rd v ((n + 1 : Nat) : Int) by clear lv1 lu1 eV eU; omega) y1 p0 p1
    have hyp : 0 < rd v ((n + 1 : Nat) : Int) := by clear lv1 lu1 eV eU; omega
    have g := Int.emod_add_mul_ediv (rd u ((n + 2 : Nat) : Int) * B64 + rd u ((n + 1 : Nat) : Int)) (rd v ((n + 1 : Nat) : Int))
    have r0 := Int.emod_nonneg (rd u ((n + 2 : Nat) : Int) * B64 + rd u ((n + 1 : Nat) : Int)) (show rd v ((n + 1 : Nat) : Int) ≠ 0 from ht)
    have r1 := Int.emod_lt_of_pos (rd u ((n + 2 : Nat) : Int) * B64 + rd u ((n + 1 : Nat) : Int)) hyp
    have q0 : 0 ≤ (rd u ((n + 2 : Nat) : Int) * B64 + rd u ((n + 1 : Nat) : Int)) / rd v ((n + 1 : Nat) : Int) := Int.ediv_nonneg (Int.add_nonneg (Int.mul_nonneg x0 (Int.le_of_lt hB)) p0) (Int.le_of_lt hyp)
    have q1 : (rd u ((n + 2 : Nat) : Int) * B64 + rd u ((n + 1 : Nat) : Int)) / rd v ((n + 1 : Nat) : Int) < B64 := Int.ediv_lt_of_lt_mul hyp (by
      have h1 := Int.mul_le_mul_of_nonneg_right (show rd u ((n + 2 : Nat) : Int) + 1 ≤ rd v ((n + 1 : Nat) : Int) by clear lv1 lu1 eV eU; omega) (Int.le_of_lt hB)
      rw [Int.add_mul, Int.one_mul, Int.mul_comm (rd v _)] at h1
      clear lv1 lu1 eV eU; omega)
    have hQq : vB B64 u / vB B64 v ≤ (rd u ((n + 2 : Nat) : Int) * B64 + rd u ((n + 1 : Nat) : Int)) / rd v ((n + 1 : Nat) : Int) := Int.le_ediv_of_mul_le hyp (by rw [Int.mul_comm (rd u _) B64, Int.add_comm]; exact hX)
    obtain ⟨z, z1, z2, z3, z4⟩ := step_l0 hn ln hu hv hl ht ((rd u ((n + 2 : Nat) : Int) * B64 + rd u ((n + 1 : Nat) : Int)) / rd v ((n + 1 : Nat) : Int) - vB B64 u / vB B64 v).toNat ((rd u ((n + 2 : Nat) : Int) * B64 + rd u ((n + 1 : Nat) : Int)) / rd v ((n + 1 : Nat) : Int)) ((rd u ((n + 2 : Nat) : Int) * B64 + rd u ((n + 1 : Nat) : Int)) % rd v ((n + 1 : Nat) : Int)) 0 (by clear lv1 lu1 eV eU; omega) q0 q1 r0 (Int.lt_trans r1 y1) (Or.inl rfl) (by
      rw [Int.mul_zero, Int.add_zero, Int.mul_comm]
      rw [Int.mul_comm (rd u _) B64] at g ⊢
      clear lv1 lu1 eV eU; omega)
    refine ⟨z, z1, z2, z3, Ev.congr (f := fun k => (bits_Div64.f k (rd u ((n + 2 : Nat) : Int)) (rd u ((n + 1 : Nat) : Int)) (rd v ((n + 1 : Nat) : Int))).bind fun bt => exact_step.j0 k u v ((n + 2 : Nat) : Int) bt.1 bt.2 0) (fun k => ?_) (Ev.bind hq (Ev.step (f := _) (fun k => rfl) z4))⟩
    unfold exact_step.f
    rw [ev, ew1, if_pos (Int.natCast_nonneg _), if_pos c1, if_pos (Int.natCast_nonneg _), if_pos (by rw [← ev]; exact c2), if_neg hc, if_pos c3]
end Go.Proofs.YtohkmnbnjacfaaaN
set_option linter.unusedVariables false
namespace Go.Proofs.YtohkmnbnjacfaaaN
open Go.RowKit Go.Proofs.Ytohkmnbnjacfaaa.All Go.Proofs.YtohkmnbnjacfaaaW.PrintWords Go.Proofs.YtohkmnbnjacfaaaW.PrintLast Go.Proofs.YtohkmnbnjacfaaaW.PrintMore
theorem drop_succ (B : Int) (l : List Int) (i : Nat) (h : i < l.length) : vB B (l.drop i) = rd l (i : Int) + B * vB B (l.drop (i + 1)) := by
  rw [List.drop_eq_getElem_cons h, vB_cons, rd_get l i h]
theorem drop_set (l : List Int) (i : Nat) (x : Int) : (l.set i x).drop (i + 1) = l.drop (i + 1) := by
  apply List.ext_getElem?
  intro j
  rw [List.getElem?_drop, List.getElem?_drop, List.getElem?_set_ne (by omega)]
theorem vB_far (B : Int) {l : List Int} {n : Nat} (h : l.length ≤ n) : vB B (l.drop n) = 0 := by rw [List.drop_of_length_le h]; rfl
theorem divide_l0 {a b : List Int} {y : Int} (ha : Dig B64 a) (la : a.length ≤ 1099511627776) (hb : b.length = 1) (hy : rd b 0 = y) (y0 : 0 < y) (y1 : y < B64) {m n : Nat} (hm : vB B64 a = m) (hn : y = n) : ∀ (i : Nat) (q : List Int) (r : Int), i ≤ a.length → q.length = a.length → Dig B64 q → 0 ≤ r → r < y → vB B64 (a.drop i) = y * vB B64 (q.drop i) + r →
    Ev (fun k => exact_divide.l0 k a b q r ((i : Int) - 1)) (d64 (m / n), d64 (m % n)) := by
  intro i
  induction i with
  | zero =>
    intro q r _ hl hd r0 r1 hv
    rw [List.drop_zero, List.drop_zero, hm, hn] at hv
    have hq0 := vB_nonneg (by decide) hd
    have e1 : (vB B64 q).toNat = m / n := by
      have : (vB B64 q) = ((m / n : Nat) : Int) := by
        rw [Int.natCast_ediv, hv, Int.add_comm, Int.add_mul_ediv_left _ _ (by omega), Int.ediv_eq_zero_of_lt r0 (by omega), Int.zero_add]
      rw [this, Int.toNat_natCast]
    have e2 : (vB B64 [r]).toNat = m % n := by
      have : (vB B64 [r]) = ((m % n : Nat) : Int) := by
        rw [Int.natCast_emod, hv, Int.add_comm, Int.add_mul_emod_self_left, Int.emod_eq_of_lt r0 (by omega)]
        simp [vB]
      rw [this, Int.toNat_natCast]
    have t1 := trim_ev hd (by omega)
    have t2 := trim_ev (l := [r]) (Dig_cons.2 ⟨⟨r0, Int.lt_trans r1 y1⟩, Dig_nil _⟩) (by simp)
    rw [e1] at t1
    rw [e2] at t2
    refine Ev.step (f := fun k => (exact_trim.f k q).bind fun t173 => ((exact_trim.f k [r]).bind fun t179 => some (t173, t179))) (fun k => ?_) (Ev.bind t1 (Ev.bind (f := fun _ t179 => some (d64 (m / n), t179)) t2 (Ev.now _)))
    simp only [exact_divide.l0]
    rw [if_neg (by decide)]
  | succ i ih =>
    intro q r hi hl hd r0 r1 hv
    have hi' : i < a.length := by omega
    obtain ⟨x0, x1⟩ := Dig_rd ha i hi'
    have hdv := div64_ev r0 r1 y1 x0 x1
    have g := Int.emod_add_mul_ediv (r * B64 + rd a (i : Int)) y
    have g0 := Int.emod_nonneg (r * B64 + rd a (i : Int)) (show y ≠ 0 by omega)
    have g1 := Int.emod_lt_of_pos (r * B64 + rd a (i : Int)) y0
    have d0 : 0 ≤ (r * B64 + rd a (i : Int)) / y := Int.ediv_nonneg (Int.add_nonneg (Int.mul_nonneg r0 (by decide)) x0) (by omega)
    have d1 : (r * B64 + rd a (i : Int)) / y < B64 := Int.ediv_lt_of_lt_mul y0 (by
      have h1 := Int.mul_le_mul_of_nonneg_right (show r + 1 ≤ y by omega) (show (0 : Int) ≤ B64 by decide)
      rw [Int.add_mul, Int.one_mul, Int.mul_comm y] at h1
      omega)
    have e0 : ((i + 1 : Nat) : Int) - 1 = (i : Int) := by omega
    have e1 : wrap64 ((i : Int) - 1) = (i : Int) - 1 := w64 (by omega) (by omega)
    have c1 : (i : Int) ≥ 0 := by omega
    have c2 : (i : Int) < (a.length : Int) := by omega
    have c3 : (0 : Int) < (b.length : Int) := by omega
    have c4 : (i : Int) < (q.length : Int) := by omega
    rw [e0]
    refine Ev.step (f := fun k => (bits_Div64.f k r (rd a (i : Int)) y).bind fun bt170 => exact_divide.l0 k a b (q.set i bt170.1) bt170.2 ((i : Int) - 1)) (fun k => ?_) (Ev.bind hdv (ih _ _ (by omega) (by rw [List.length_set]; exact hl) (Dig_set hd _ d0 d1) g0 g1 ?_))
    · simp only [exact_divide.l0, e1]
      rw [if_pos c1, if_pos c1, if_pos c2, if_pos c3, hy]
      simp only [if_pos c4, Int.toNat_natCast]
    · show vB B64 (a.drop i) = y * vB B64 ((q.set i ((r * B64 + rd a (i : Int)) / y)).drop i) + (r * B64 + rd a (i : Int)) % y
      rw [drop_succ B64 a i hi', drop_succ B64 (q.set i ((r * B64 + rd a (i : Int)) / y)) i (by rw [List.length_set]; omega), rd_set_self _ _ _ (by omega), drop_set, hv]
      rw [Int.mul_add B64, Int.mul_add y, Int.mul_left_comm y B64]
      rw [Int.mul_comm r B64] at *
      generalize y * ((B64 * r + rd a (i : Int)) / y) = A at *
      generalize (B64 * r + rd a (i : Int)) % y = A2 at *
      generalize B64 * (y * vB B64 (q.drop (i + 1))) = A3 at *
      generalize B64 * r = A4 at *
      clear hdv hv
      omega
def Down (u z : List Int) (s i : Nat) : Prop :=
  z.length = u.length ∧ Dig B64 z ∧ (∀ j : Nat, i ≤ j → rd z (j : Int) = rd u (j : Int)) ∧ 2 ^ s * vB B64 (z.take i) = vB B64 (u.take i) + B64 ^ i * (rd u (i : Int) % 2 ^ s)
theorem word_down {x y : Int} (x0 : 0 ≤ x) (x1 : x < B64) (y0 : 0 ≤ y) (y1 : y < B64) (s : Nat) (hs : s ≤ 63) : 2 ^ s * (x / 2 ^ s + (y * 2 ^ (64 - s)) % B64) = x - x % 2 ^ s + B64 * (y % 2 ^ s) ∧ (y * 2 ^ (64 - s)) % B64 % 2 ^ (64 - s) = 0 ∧ x / 2 ^ s < 2 ^ (64 - s) ∧ 0 ≤ x / 2 ^ s ∧ x / 2 ^ s + (y * 2 ^ (64 - s)) % B64 < B64 := by
  have hP : (0 : Int) < 2 ^ s := Int.pow_pos (by decide)
  have hR : (0 : Int) < 2 ^ (64 - s) := Int.pow_pos (by decide)
  have hPR : (2 : Int) ^ s * 2 ^ (64 - s) = B64 := by
    rw [← Int.pow_add]
    have : s + (64 - s) = 64 := by omega
    rw [this]
    rfl
  have g := Int.emod_add_mul_ediv y (2 ^ s)
  have g0 := Int.emod_nonneg y (show (2 : Int) ^ s ≠ 0 by omega)
  have g1 := Int.emod_lt_of_pos y hP
  have g2 : y * 2 ^ (64 - s) = y % 2 ^ s * 2 ^ (64 - s) + B64 * (y / 2 ^ s) := by
    conv => lhs; rw [← g]
    rw [Int.add_mul, Int.mul_right_comm, hPR]
  have g3 : 0 ≤ y % 2 ^ s * 2 ^ (64 - s) := Int.mul_nonneg g0 (Int.le_of_lt hR)
  have g4 : y % 2 ^ s * 2 ^ (64 - s) + 2 ^ (64 - s) ≤ B64 := by
    have := Int.mul_le_mul_of_nonneg_right (show y % 2 ^ s + 1 ≤ 2 ^ s by omega) (Int.le_of_lt hR)
    rwa [hPR, Int.add_mul, Int.one_mul] at this
  have g5 : (y * 2 ^ (64 - s)) % B64 = y % 2 ^ s * 2 ^ (64 - s) := by
    rw [g2, Int.add_mul_emod_self_left, Int.emod_eq_of_lt g3 (by omega)]
  have k1 := Int.emod_add_mul_ediv x (2 ^ s)
  have k2 : x / 2 ^ s < 2 ^ (64 - s) := Int.ediv_lt_of_lt_mul hP (by rw [Int.mul_comm, hPR]; exact x1)
  refine ⟨?_, by rw [g5]; exact Int.mul_emod_left _ _, k2, Int.ediv_nonneg x0 (Int.le_of_lt hP), by rw [g5]; omega⟩
  rw [g5, Int.mul_add, Int.mul_left_comm (2 ^ s) (y % 2 ^ s), hPR, Int.mul_comm (y % 2 ^ s)]
  omega
theorem down_step {u z : List Int} {s i : Nat} (hs : s ≤ 63) (hu : Dig B64 u) (hi : i + 1 < u.length) (h : Down u z s i) : Down u (z.set i (rd u (i : Int) / 2 ^ s + (rd u ((i + 1 : Nat) : Int) * 2 ^ (64 - s)) % B64)) s (i + 1) := by
  obtain ⟨hl, hd, hr, hv⟩ := h
  obtain ⟨x0, x1⟩ := Dig_rd hu i (by omega)
  obtain ⟨y0, y1⟩ := Dig_rd hu (i + 1) hi
  obtain ⟨a1, a2, a3, a4, a5⟩ := word_down x0 x1 y0 y1 s hs
  have a6 := Int.emod_nonneg (rd u ((i + 1 : Nat) : Int) * 2 ^ (64 - s)) (show (B64 : Int) ≠ 0 by decide)
  refine ⟨by rw [List.length_set]; exact hl, Dig_set hd _ (Int.add_nonneg a4 a6) a5, fun j hj => ?_, ?_⟩
  · rw [rd_set_ne _ _ _ _ (by omega)]
    exact hr j (by omega)
  · rw [take_succ, take_succ, rd_set_self _ _ _ (by omega), List.take_set_of_le (Nat.le_refl _), Int.mul_add, hv, Int.mul_left_comm (2 ^ s), a1, Int.pow_succ, Int.mul_assoc (B64 ^ i) B64, Int.mul_add (B64 ^ i), Int.mul_sub]
    generalize B64 ^ i * (rd u (i : Int) % 2 ^ s) = A
    generalize B64 ^ i * rd u (i : Int) = A1
    generalize B64 ^ i * (B64 * (rd u ((i + 1 : Nat) : Int) % 2 ^ s)) = A2
    omega
end Go.Proofs.YtohkmnbnjacfaaaN
set_option linter.unusedVariables false
namespace Go.Proofs.YtohkmnbnjacfaaaN
open Go.RowKit Go.Proofs.Ytohkmnbnjacfaaa.All Go.Proofs.YtohkmnbnjacfaaaW.PrintWords Go.Proofs.YtohkmnbnjacfaaaW.PrintLast Go.Proofs.YtohkmnbnjacfaaaW.PrintMore
theorem divide_l2 {u q : List Int} {s N Q R : Nat} (hs : s ≤ 63) (hu : Dig B64 u) (hN : N + 1 ≤ u.length) (lu : u.length ≤ 1099511627780) (hq : Dig B64 q) (lq : q.length ≤ 1099511627780) (hQ : vB B64 q = Q) (hR : vB B64 (u.take N) + B64 ^ N * (rd u (N : Int) % 2 ^ s) = 2 ^ s * R) :
    ∀ (d i : Nat) (z : List Int), i + d = N → Down u z s i → Ev (fun k => exact_divide.l2 k (s : Int) z (N : Int) q (N : Int) (i : Int)) (d64 Q, d64 R) := by
  intro d
  induction d with
  | zero =>
    intro i z hi h
    have hi : i = N := by omega
    subst hi
    have hl := h.1
    have c1 : (i : Int) ≤ (z.length : Int) := by omega
    have lz : z.length < 9223372036854775808 := by omega
    have lz2 : (z.take i).length < 9223372036854775808 := by rw [List.length_take]; omega
    have lq2 : q.length < 9223372036854775808 := by omega
    obtain ⟨-, hd, -, hv⟩ := h
    rw [hR] at hv
    have hv' : vB B64 (z.take i) = R := Int.eq_of_mul_eq_mul_left (show (2 : Int) ^ s ≠ 0 from Int.ne_of_gt (Int.pow_pos (by decide))) hv
    have t1 := trim_ev hq lq2
    have t2 := trim_ev (Dig_take hd i) lz2
    rw [hQ, Int.toNat_natCast] at t1
    rw [hv', Int.toNat_natCast] at t2
    refine Ev.step (f := fun k => (exact_trim.f k q).bind fun t208 => (exact_trim.f k (z.take i)).bind fun t214 => some (t208, t214)) (fun k => ?_) (Ev.bind t1 (Ev.bind (f := fun _ t214 => some (d64 Q, t214)) t2 (Ev.now _)))
    simp only [exact_divide.l2]
    rw [if_neg (Int.lt_irrefl _)]
    simp only [if_pos c1, if_pos (Int.natCast_nonneg i), Int.toNat_natCast]
  | succ d ih =>
    intro i z hi h
    have hi' : i < N := by omega
    have c0 : i + 1 + d = N := by omega
    have hl := h.1
    have c1 : (i : Int) < (N : Int) := by omega
    have c2 : (i : Int) < (z.length : Int) := by omega
    have c3 : ((i + 1 : Nat) : Int) < (z.length : Int) := by omega
    have c4 : i < z.length := by omega
    have c5 : i + 1 < u.length := by omega
    have hn := down_step hs hu c5 h
    have e1 : wrap64 ((i : Int) + 1) = ((i + 1 : Nat) : Int) := by clear hR; rw [w64 (by omega) (by omega)]; omega
    have e2 : wrap64 (64 - (s : Int)) = ((64 - s : Nat) : Int) := by clear hR e1; rw [w64 (by omega) (by omega)]; omega
    have g0 := h.2.2.1 i (Nat.le_refl _)
    have g1 := h.2.2.1 (i + 1) (by clear hR e1 e2; omega)
    obtain ⟨x0, x1⟩ := Dig_rd hu i (by clear hR e1 e2; omega)
    obtain ⟨y0, y1⟩ := Dig_rd hu (i + 1) c5
    obtain ⟨a1, a2, a3, a4, a5⟩ := word_down x0 x1 y0 y1 s hs
    have a6 := Int.emod_nonneg (rd u ((i + 1 : Nat) : Int) * 2 ^ (64 - s)) (show (B64 : Int) ≠ 0 by decide)
    have a7 := Int.emod_lt_of_pos (rd u ((i + 1 : Nat) : Int) * 2 ^ (64 - s)) (show (0 : Int) < B64 by decide)
    have sh1 : shr .u64 (rd z (i : Int)) (s : Int) = rd u (i : Int) / 2 ^ s := by rw [g0]; exact shr_eq _ _ (by clear hR e1 e2 a1; omega)
    have sh2 : shl .u64 (rd u ((i + 1 : Nat) : Int)) ((64 - s : Nat) : Int) = (rd u ((i + 1 : Nat) : Int) * 2 ^ (64 - s)) % B64 := shl_eq _ _ (by clear hR e1 e2 a1; omega)
    have hor := bits_join2 (64 - s) (by clear hR e1 e2 a1; omega) a4 a3 a6 a7 a2 a5
    have r1 : rd (z.set i (rd u (i : Int) / 2 ^ s)) (i : Int) = rd u (i : Int) / 2 ^ s := rd_set_self _ _ _ c4
    have r2 : rd (z.set i (rd u (i : Int) / 2 ^ s)) ((i + 1 : Nat) : Int) = rd u ((i + 1 : Nat) : Int) := by rw [rd_set_ne _ _ _ _ (by clear hR e1 e2 a1; omega)]; exact g1
    refine Ev.step (fun k => ?_) (ih (i + 1) _ c0 hn)
    simp only [exact_divide.l2, e1, e2, sh1, Int.toNat_natCast, Option.bind_some]
    rw [if_pos c1, if_pos (Int.natCast_nonneg _), if_pos c2, if_pos (Int.natCast_nonneg _)]
    by_cases hs0 : (s : Int) > 0
    · rw [if_pos hs0, if_pos c3, if_pos (Int.natCast_nonneg _), if_pos (Int.natCast_nonneg _), r1, r2, sh2, hor, List.set_set]
    · rw [if_neg hs0]
      have hs1 : s = 0 := by clear hR e1 e2 a1; omega
      subst hs1
      have : (rd u ((i + 1 : Nat) : Int) * 2 ^ (64 - 0)) % B64 = 0 := Int.mul_emod_left _ _
      rw [this, Int.add_zero]
def Long (M V : Int) (L Lq : Nat) (u q : List Int) (J : Nat) : Prop :=
  u.length = L ∧ Dig B64 u ∧ q.length = Lq ∧ Dig B64 q ∧ vB B64 (u.drop J) < V ∧ M = vB B64 u + V * (B64 ^ J * vB B64 (q.drop J))
theorem long_step {M : Int} {L Lq N j : Nat} {u v q : List Int} (hv : Dig B64 v) (hN : v.length = N + 2) (ln : N ≤ 1099511627000) (ht : rd v ((N + 1 : Nat) : Int) ≠ 0) (hj : j + (N + 2) + 1 ≤ L) (hjq : j < Lq) (h : Long M (vB B64 v) L Lq u q (j + 1)) :
    ∃ d u', Long M (vB B64 v) L Lq u' (q.set j d) j ∧ Ev (fun k => exact_stepAt.f k u v (j : Int) ((j + (N + 2) + 1 : Nat) : Int)) (d, u') := by
  have hB : (0 : Int) < B64 := by decide
  obtain ⟨hl, hd, hlq, hdq, hlt, hM⟩ := h
  have hV1 := vB_lt hB hv
  rw [hN] at hV1
  have hVn := vB_nonneg (Int.le_of_lt hB) hv
  obtain ⟨w, hw⟩ : ∃ w, w = (u.take (j + (N + 2) + 1)).drop j := ⟨_, rfl⟩
  have hwl : w.length = N + 3 := by rw [hw, List.length_drop, List.length_take]; omega
  have hwd : Dig B64 w := by rw [hw]; exact Dig_drop (Dig_take hd _) _
  have hwt : w = (u.drop j).take (N + 3) := by rw [hw, List.drop_take]; congr 1; omega
  have hdl : (u.drop j).length = L - j := by rw [List.length_drop, hl]
  have s1 := vB_split B64 (u.drop j) (N + 3) (by omega)
  rw [← hwt, List.drop_drop] at s1
  have s2 := vB_split B64 (u.drop (j + 1)) (N + 2) (by rw [List.length_drop]; omega)
  rw [List.drop_drop, show j + 1 + (N + 2) = j + (N + 3) by omega] at s2
  have p1 := vB_nonneg (Int.le_of_lt hB) (Dig_take (Dig_drop hd (j + 1)) (N + 2))
  have p2 := vB_nonneg (Int.le_of_lt hB) (Dig_drop hd (j + (N + 3)))
  have hz : vB B64 (u.drop (j + (N + 3))) = 0 := by
    rcases Int.lt_or_le (vB B64 (u.drop (j + (N + 3)))) 1 with h | h
    · clear hV1 s1 s2 hM hlt; omega
    · exfalso
      have := Int.mul_le_mul_of_nonneg_left h (Int.le_of_lt (show (0 : Int) < B64 ^ (N + 2) from Int.pow_pos hB))
      rw [Int.mul_one] at this
      generalize (B64 : Int) ^ (N + 2) = P at *
      generalize P * vB B64 (u.drop (j + (N + 3))) = A at *
      clear hM s1
      omega
  rw [hz, Int.mul_zero, Int.add_zero] at s1
  have s3 := drop_succ B64 u j (by omega)
  obtain ⟨x0, x1⟩ := Dig_rd hd j (by omega)
  have hwlt : vB B64 w < vB B64 v * B64 := by
    rw [← s1, s3]
    have h1 := Int.mul_le_mul_of_nonneg_left (show vB B64 (u.drop (j + 1)) + 1 ≤ vB B64 v by clear hV1 s1 s2 hM s3; omega) (Int.le_of_lt hB)
    rw [Int.mul_add, Int.mul_one, Int.mul_comm B64 (vB B64 v)] at h1
    clear hV1 s1 s2 hM s3
    omega
  obtain ⟨z, z1, z2, z3, z4⟩ := step_ev hN ln hwd hv hwl ht hwlt
  have hV0 : 0 < vB B64 v := by
    rcases Int.lt_or_le 0 (vB B64 v) with h | h
    · exact h
    · exfalso
      have : vB B64 v = 0 := by clear hV1 s1 s2 hM s3 hwlt; omega
      rw [this, Int.zero_mul] at hwlt
      have := vB_nonneg (Int.le_of_lt hB) hwd
      clear hV1 s1 s2 hM s3; omega
  have q0 : 0 ≤ vB B64 w / vB B64 v := Int.ediv_nonneg (vB_nonneg (Int.le_of_lt hB) hwd) (Int.le_of_lt hV0)
  have q1 : vB B64 w / vB B64 v < B64 := Int.ediv_lt_of_lt_mul hV0 (by rw [Int.mul_comm]; exact hwlt)
  have hdm := Int.emod_add_mul_ediv (vB B64 w) (vB B64 v)
  have m1 := Int.emod_lt_of_pos (vB B64 w) hV0
  have htj : (u.take j).length = j := by rw [List.length_take]; omega
  have hdrop : (u.take j ++ z ++ u.drop (j + (N + 2) + 1)).drop j = z ++ u.drop (j + (N + 3)) := by
    rw [List.append_assoc, List.drop_append_of_le_length (by omega), List.drop_of_length_le (by omega), List.nil_append]
    rfl
  have hvz : vB B64 (z ++ u.drop (j + (N + 3))) = vB B64 z := by rw [vB_append, hz, Int.mul_zero, Int.add_zero]
  refine ⟨vB B64 w / vB B64 v, u.take j ++ z ++ u.drop (j + (N + 2) + 1), ⟨?_, Dig_append (Dig_append (Dig_take hd _) z2) (Dig_drop hd _), by rw [List.length_set]; exact hlq, Dig_set hdq _ q0 q1, ?_, ?_⟩, ?_⟩
  · rw [List.length_append, List.length_append, htj, z1, List.length_drop]
    clear hV1 s1 s2 hM s3 hwlt hdm; omega
  · rw [hdrop, hvz, z3]
    exact m1
  · have t1 := vB_split B64 u j (by clear hV1 s1 s2 hM s3 hwlt hdm; omega)
    have t2 : vB B64 (u.take j ++ z ++ u.drop (j + (N + 2) + 1)) = vB B64 (u.take j) + B64 ^ j * vB B64 z := by
      rw [List.append_assoc, vB_append, htj]
      congr 2
    rw [t2, z3, drop_succ B64 (q.set j (vB B64 w / vB B64 v)) j (by rw [List.length_set, hlq]; exact hjq), rd_set_self _ _ _ (by rw [hlq]; exact hjq), drop_set, hM, t1, s1, Int.pow_succ]
    generalize vB B64 (u.take j) = A
    generalize vB B64 (q.drop (j + 1)) = C
    generalize vB B64 w / vB B64 v = D at *
    generalize vB B64 w % vB B64 v = E at *
    rw [← hdm]
    generalize vB B64 v = V
    generalize (B64 : Int) ^ j = P
    rw [Int.mul_add P E, Int.mul_add P D, Int.mul_add V (P * D), Int.mul_left_comm P V D, Int.mul_assoc P B64 C, Int.add_assoc, Int.add_assoc, Int.add_assoc]
  · refine Ev.congr (f := fun k => (exact_step.f k w v).bind fun bt => some (bt.1, u.take j ++ bt.2 ++ u.drop (j + (N + 2) + 1))) (fun k => ?_) (Ev.bind z4 (Ev.now _))
    unfold exact_stepAt.f
    rw [Int.toNat_natCast, Int.toNat_natCast, ← hw]
theorem divide_l1 {M : Int} {L Lq N s Q R : Nat} {v : List Int} (hv : Dig B64 v) (hN : v.length = N + 2) (ln : N ≤ 1099511627000) (ht : rd v ((N + 1 : Nat) : Int) ≠ 0) (hs : s ≤ 63) (hL : L ≤ 1099511627780) (hLq : Lq + (N + 2) = L) (hLq1 : 1 ≤ Lq)
    (hQ : M / vB B64 v = Q) (hR : M % vB B64 v = 2 ^ s * R) : ∀ (J : Nat) (u q : List Int), J ≤ Lq → Long M (vB B64 v) L Lq u q J → Ev (fun k => exact_divide.l1 k (s : Int) v u ((N + 2 : Nat) : Int) q ((J : Int) - 1)) (d64 Q, d64 R) := by
  have hB : (0 : Int) < B64 := by decide
  have hV1 := vB_lt hB hv
  rw [hN] at hV1
  intro J
  induction J with
  | zero =>
    intro u q hJ h
    obtain ⟨hl, hd, hlq, hdq, hlt, hM⟩ := h
    rw [List.drop_zero] at hlt hM
    rw [Int.pow_zero, Int.one_mul] at hM
    have hu0 := vB_nonneg (Int.le_of_lt hB) hd
    have hV0 : vB B64 v ≠ 0 := by clear hV1; omega
    have eQ : vB B64 q = Q := by
      rw [← hQ, hM, Int.add_mul_ediv_left _ _ hV0, Int.ediv_eq_zero_of_lt hu0 hlt, Int.zero_add]
    have eR : vB B64 u = 2 ^ s * R := by
      rw [← hR, hM, Int.add_mul_emod_self_left, Int.emod_eq_of_lt hu0 hlt]
    have hNl : N + 2 + 1 ≤ u.length := by clear hV1 hlt hM; omega
    have s1 := vB_split B64 u (N + 2) (by clear hV1 hlt hM; omega)
    have p1 := vB_nonneg (Int.le_of_lt hB) (Dig_take hd (N + 2))
    have p2 := vB_nonneg (Int.le_of_lt hB) (Dig_drop hd (N + 2))
    have hz : vB B64 (u.drop (N + 2)) = 0 := by
      rcases Int.lt_or_le (vB B64 (u.drop (N + 2))) 1 with h | h
      · clear hV1 s1 hM hlt; omega
      · exfalso
        have := Int.mul_le_mul_of_nonneg_left h (Int.le_of_lt (show (0 : Int) < B64 ^ (N + 2) from Int.pow_pos hB))
        rw [Int.mul_one] at this
        generalize (B64 : Int) ^ (N + 2) = P at *
        generalize P * vB B64 (u.drop (N + 2)) = A at *
        clear hM eR
        omega
    have hz2 : rd u ((N + 2 : Nat) : Int) = 0 := by
      have s3 := drop_succ B64 u (N + 2) (by clear hV1 hlt hM s1; omega)
      obtain ⟨x0, x1⟩ := Dig_rd hd (N + 2) (by clear hV1 hlt hM s1; omega)
      have p3 := Int.mul_nonneg (Int.le_of_lt hB) (vB_nonneg (Int.le_of_lt hB) (Dig_drop hd (N + 2 + 1)))
      rw [hz] at s3
      clear hV1 hlt hM s1; omega
    rw [hz, Int.mul_zero, Int.add_zero] at s1
    have c1 : ¬ (((0 : Nat) : Int) - 1 ≥ 0) := by decide
    refine Ev.step (f := fun k => exact_divide.l2 k (s : Int) u ((N + 2 : Nat) : Int) q ((N + 2 : Nat) : Int) ((0 : Nat) : Int)) (fun k => ?_) (divide_l2 hs hd hNl (by clear hV1 hlt hM s1; omega) hdq (by clear hV1 hlt hM s1; omega) eQ (by rw [hz2, ← s1, Int.zero_emod, Int.mul_zero, Int.add_zero]; exact eR) (N + 2) 0 u (Nat.zero_add _) ⟨rfl, hd, fun _ _ => rfl, ?_⟩)
    · simp only [exact_divide.l1]
      rw [if_neg c1]
      rfl
    · have h0 : rd u ((0 : Nat) : Int) % 2 ^ s = 0 := by
        have s3 := drop_succ B64 u 0 (by clear hV1 hlt hM s1; omega)
        rw [List.drop_zero, eR] at s3
        obtain ⟨c, hc⟩ : ∃ c, c * 2 ^ s = B64 := ⟨2 ^ (64 - s), by
          rw [← Int.pow_add]
          have : 64 - s + s = 64 := by clear hV1 hlt hM s1; omega
          rw [this]
          rfl⟩
        have : rd u ((0 : Nat) : Int) = 2 ^ s * (R - c * vB B64 (u.drop 1)) := by
          rw [show 0 + 1 = 1 from rfl] at s3
          generalize vB B64 (u.drop 1) = X at *
          rw [← hc] at s3
          rw [Int.mul_sub, ← Int.mul_assoc, Int.mul_comm (2 ^ s) c]
          clear hV1 hlt hM s1; omega
        rw [this]
        exact Int.mul_emod_right _ _
      rw [h0]
      simp [vB]
  | succ j ih =>
    intro u q hJ h
    have hj : j + (N + 2) + 1 ≤ L := by clear hV1; omega
    have e0 : ((j + 1 : Nat) : Int) - 1 = (j : Int) := by clear hV1; omega
    have hl := h.1
    have hlq := h.2.2.1
    have c1 : (j : Int) ≥ 0 := by clear hV1; omega
    have c2 : (j : Int) ≤ ((j + (N + 2) + 1 : Nat) : Int) := by clear hV1; omega
    have c3 : ((j + (N + 2) + 1 : Nat) : Int) ≤ (u.length : Int) := by clear hV1; omega
    have c4 : (j : Int) < (q.length : Int) := by clear hV1; omega
    have e1 : wrap64 ((j : Int) + ((N + 2 : Nat) : Int)) = ((j + (N + 2) : Nat) : Int) := by clear hV1; rw [w64 (by omega) (by omega)]; omega
    have e2 : wrap64 (((j + (N + 2) : Nat) : Int) + 1) = ((j + (N + 2) + 1 : Nat) : Int) := by clear hV1 e1; rw [w64 (by omega) (by omega)]; omega
    have e3 : wrap64 ((j : Int) - 1) = (j : Int) - 1 := by clear hV1 e1 e2; exact w64 (by omega) (by omega)
    obtain ⟨d, u', h', hev⟩ := long_step hv hN ln ht hj (by clear hV1 e1 e2 e3; omega) h
    rw [e0]
    refine Ev.step (f := fun k => (exact_stepAt.f k u v (j : Int) ((j + (N + 2) + 1 : Nat) : Int)).bind fun bt200 => exact_divide.l1 k (s : Int) v bt200.2 ((N + 2 : Nat) : Int) (q.set j bt200.1) ((j : Int) - 1)) (fun k => ?_) (Ev.bind hev (ih u' _ (by clear hV1 e1 e2 e3; omega) h'))
    simp only [exact_divide.l1, e1, e2, e3]
    rw [if_pos c1, if_pos c1, if_pos c2, if_pos c3]
    simp only [if_pos c4, Int.toNat_natCast]
end Go.Proofs.YtohkmnbnjacfaaaN
