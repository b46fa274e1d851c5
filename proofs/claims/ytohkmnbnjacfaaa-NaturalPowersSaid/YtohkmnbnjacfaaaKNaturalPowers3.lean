/- Part of the proof of the statement NaturalPowers: lemmas on the model's steps, Lean functions that say what the program's functions compute, and proofs that the calls do just that. No hypothesis is added. -/
import Derived.Test.YtohkmnbnjacfaaaKNaturalPowers2
set_option linter.all false
namespace Go.Proofs.Ytohkmnbnjacfaaa.All
open Go.Proofs.YtohkmnbnjacfaaaX
open Go.RowKit Go.Proofs.YtohkmnbnjacfaaaW.PrintWords Go.Proofs.YtohkmnbnjacfaaaW.PrintLast Go.Proofs.YtohkmnbnjacfaaaW.PrintMore
attribute [local go_sem] max2_int min2_int max_two min_two max_three min_three max_four min_four
set_option linter.unusedVariables false
set_option linter.unusedSimpArgs false
mutual
def galoisref01_DivMod.l0 : Nat → List Int → Int → List Int → List Int → Int → Option (ByteArray × ByteArray)
 | 0, _, _, _, _, _ => none
 | k + 1, x7, x8, x9, x10, x11 => if x11 ≥ 0 then (galoisref01_DivMod.l1 k x7 x8 x9 x10 x11) else ((galoisref01_pack.f k x10).bind fun t458 => ((galoisref01_pack.f k x9).bind fun t459 => (some (t458, t459))))
def galoisref01_DivMod.l1 : Nat → List Int → Int → List Int → List Int → Int → Option (ByteArray × ByteArray)
 | 0, _, _, _, _, _ => none
 | k + 1, x7, x8, x9, x10, x11 => if 0 ≤ x11 then (if x11 ≤ (x9.length : Int) then ((galoisref01_below.f k (x9.drop (x11 : Int).toNat) x7).bind fun t464 => (if t464 = true then (galoisref01_DivMod.l0 k x7 x8 x9 x10 (wrap64 (x11 - 1))) else (if 0 ≤ (wrap64 (x11 + x8)) then (if (wrap64 (x11 + x8)) < (x9.length : Int) then (if 0 ≤ (wrap64 ((wrap64 (x11 + x8)) - 1)) then (if (wrap64 ((wrap64 (x11 + x8)) - 1)) < (x9.length : Int) then (if 0 ≤ (wrap64 (x8 - 1)) then (if (wrap64 (x8 - 1)) < (x7.length : Int) then (if (IntKind.u64.wrap ((rd x7 (wrap64 (x8 - 1))) + 1)) = 0 then (none) else (if x11 < (x10.length : Int) then (galoisref01_DivMod.l2 k x7 x8 x9 (x10.set (x11 : Int).toNat (IntKind.u64.wrap ((rd x10 x11) + (mx 1 (IntKind.u64.wrap (Int.tdiv (IntKind.u64.wrap ((IntKind.u64.wrap ((rd x9 (wrap64 (x11 + x8))) * 4294967296)) + (rd x9 (wrap64 ((wrap64 (x11 + x8)) - 1))))) (IntKind.u64.wrap ((rd x7 (wrap64 (x8 - 1))) + 1)))))))) x11 (mx 1 (IntKind.u64.wrap (Int.tdiv (IntKind.u64.wrap ((IntKind.u64.wrap ((rd x9 (wrap64 (x11 + x8))) * 4294967296)) + (rd x9 (wrap64 ((wrap64 (x11 + x8)) - 1))))) (IntKind.u64.wrap ((rd x7 (wrap64 (x8 - 1))) + 1))))) 0 0) else (none))) else (none)) else (none)) else (none)) else (none)) else (none)) else (none)))) else (none)) else (none)
def galoisref01_DivMod.l2 : Nat → List Int → Int → List Int → List Int → Int → Int → Int → Int → Option (ByteArray × ByteArray)
 | 0, _, _, _, _, _, _, _, _ => none
 | k + 1, x7, x8, x9, x10, x11, x12, x13, x14 => if x14 < x8 then (if 0 ≤ x14 then (if x14 < (x7.length : Int) then (if 0 ≤ (wrap64 (x11 + x14)) then (if (wrap64 (x11 + x14)) < (x9.length : Int) then (if (rd x9 (wrap64 (x11 + x14))) < (Go.bits .and .u64 (IntKind.u64.wrap ((IntKind.u64.wrap ((rd x7 x14) * x12)) + x13)) 4294967295) then ((some (x9.set ((wrap64 (x11 + x14)) : Int).toNat (IntKind.u64.wrap ((rd x9 (wrap64 (x11 + x14))) + 4294967296)) : List Int)).bind fun y473 => (galoisref01_DivMod.l2 k x7 x8 (y473.set ((wrap64 (x11 + x14)) : Int).toNat (IntKind.u64.wrap ((rd y473 (wrap64 (x11 + x14))) - (Go.bits .and .u64 (IntKind.u64.wrap ((IntKind.u64.wrap ((rd x7 x14) * x12)) + x13)) 4294967295)))) x10 x11 x12 (IntKind.u64.wrap (((IntKind.u64.wrap ((IntKind.u64.wrap ((rd x7 x14) * x12)) + x13)) / 4294967296) + 1)) (wrap64 (x14 + 1)))) else (galoisref01_DivMod.l2 k x7 x8 (x9.set ((wrap64 (x11 + x14)) : Int).toNat (IntKind.u64.wrap ((rd x9 (wrap64 (x11 + x14))) - (Go.bits .and .u64 (IntKind.u64.wrap ((IntKind.u64.wrap ((rd x7 x14) * x12)) + x13)) 4294967295)))) x10 x11 x12 ((IntKind.u64.wrap ((IntKind.u64.wrap ((rd x7 x14) * x12)) + x13)) / 4294967296) (wrap64 (x14 + 1)))) else (none)) else (none)) else (none)) else (none)) else (if 0 ≤ (wrap64 (x11 + x8)) then (if (wrap64 (x11 + x8)) < (x9.length : Int) then (galoisref01_DivMod.l1 k x7 x8 (x9.set ((wrap64 (x11 + x8)) : Int).toNat (IntKind.u64.wrap ((rd x9 (wrap64 (x11 + x8))) - x13))) x10 x11) else (none)) else (none))
end
def galoisref01_DivMod.f (k : Nat) (a0 : ByteArray) (a1 : ByteArray) : Option (ByteArray × ByteArray) := if a1.toList = ([] : List UInt8) then (some ((⟨#[]⟩ : ByteArray), (⟨#[]⟩ : ByteArray))) else ((galoisref01_limbs.f k a0).bind fun t446 => ((galoisref01_limbs.f k a1).bind fun t449 => (if t446.length < 17592186044416 then (if 0 ≤ (mx 0 (wrap64 ((wrap64 ((t446.length : Int) - (t449.length : Int))) + 1))) then (if (mx 0 (wrap64 ((wrap64 ((t446.length : Int) - (t449.length : Int))) + 1)) : Int).toNat ≤ 35184372088832 then ((some (List.replicate (mx 0 (wrap64 ((wrap64 ((t446.length : Int) - (t449.length : Int))) + 1)) : Int).toNat 0 : List Int)).bind fun y455 => (galoisref01_DivMod.l0 k t449 (t449.length : Int) (t446 ++ [0]) y455 (wrap64 ((y455.length : Int) - 1)))) else (none)) else (none)) else (none))))
theorem galoisref01_DivMod.U1 {g : Prop} (h : g := by
 repeat' first
 | (with_reducible exact ih0 _ _ _ _ _)
 | (with_reducible exact ih1 _ _ _ _ _)
 | (with_reducible exact ih2 _ _ _ _ _ _ _ _)
 | (with_reducible exact galoisref01_below.mono _ _ _)
 | (with_reducible exact galoisref01_limbs.mono _ _)
 | (with_reducible exact galoisref01_pack.mono _ _)
 | (with_reducible exact LeO.refl _)
 | (with_reducible exact LeO.none _)
 | (with_reducible refine LeO.ite ?_ ?_)
 | (with_reducible refine LeO.bind ?_ (fun _ => ?_))) : g := h
theorem galoisref01_DivMod.mono_l : ∀ k, (∀ y0 y1 y2 y3 y4, LeO (galoisref01_DivMod.l0 k y0 y1 y2 y3 y4) (galoisref01_DivMod.l0 (k + 1) y0 y1 y2 y3 y4)) ∧ (∀ y0 y1 y2 y3 y4, LeO (galoisref01_DivMod.l1 k y0 y1 y2 y3 y4) (galoisref01_DivMod.l1 (k + 1) y0 y1 y2 y3 y4)) ∧ (∀ y0 y1 y2 y3 y4 y5 y6 y7, LeO (galoisref01_DivMod.l2 k y0 y1 y2 y3 y4 y5 y6 y7) (galoisref01_DivMod.l2 (k + 1) y0 y1 y2 y3 y4 y5 y6 y7))
 | 0 => ⟨fun _ _ _ _ _ r h => by simp [galoisref01_DivMod.l0] at h, fun _ _ _ _ _ r h => by simp [galoisref01_DivMod.l1] at h, fun _ _ _ _ _ _ _ _ r h => by simp [galoisref01_DivMod.l2] at h⟩
 | k + 1 => by
  obtain ⟨ih0, ih1, ih2⟩ := galoisref01_DivMod.mono_l k
  refine ⟨?_, ?_, ?_⟩
  ·intro y0 y1 y2 y3 y4
   unfold galoisref01_DivMod.l0
   exact galoisref01_DivMod.U1
  ·intro y0 y1 y2 y3 y4
   unfold galoisref01_DivMod.l1
   exact galoisref01_DivMod.U1
  ·intro y0 y1 y2 y3 y4 y5 y6 y7
   unfold galoisref01_DivMod.l2
   exact galoisref01_DivMod.U1
theorem galoisref01_DivMod.mono : ∀ a0 a1 k, LeO (galoisref01_DivMod.f k a0 a1) (galoisref01_DivMod.f (k + 1) a0 a1) := by
 intro a0 a1 k
 obtain ⟨ih0, ih1, ih2⟩ := galoisref01_DivMod.mono_l k
 unfold galoisref01_DivMod.f
 exact galoisref01_DivMod.U1
def galoisref01_DivMod.T11 : Bool × List (List Nat × List Nat) := (true, [([], []), ([], []), ([], []), ([1, 2], [1, 2]), ([0, 3], [0, 3]), ([4], [4]), ([5], [5]), ([], []), ([], []), ([], []), ([8, 9], [8, 9]), ([10], [10]), ([7, 11], [7, 11]), ([12], [12]), ([6, 13], [6, 13]), ([], []), ([], []), ([16], [16]), ([15, 17], [15, 17]), ([18], [18]), ([19], [19]), ([14, 20], [14, 20]), ([21], [21]), ([22, 0, 1, 2, 3, 4, 5, 6, 7, 8, 9, 10, 11, 12, 13, 14, 15, 16, 17, 18, 19, 20, 21, 22], [22])])
def galoisref01_DivMod.B11 : List Nat := [0, 0, 0, 6, 15, 31, 63, 0, 0, 0, 768, 1792, 3968, 8064, 16383, 0, 0, 65536, 229376, 491520, 1015808, 2097151, 4194303, 8388607]
theorem galoisref01_DivMod.tab11 : rtab .any (opsOf Try.f18 11) = galoisref01_DivMod.T11 := by kernel_rfl
theorem galoisref01_DivMod.bits11 : waitsOk galoisref01_DivMod.T11.2 galoisref01_DivMod.B11 = true := by kernel_rfl
set_option maxHeartbeats 8000000 in
set_option maxRecDepth 100000 in
theorem galoisref01_DivMod.calls (k : Nat) (a0 : ByteArray) (a1 : ByteArray) (r1 : ByteArray) (r2 : ByteArray) (w : World) (h : galoisref01_DivMod.f k a0 a1 = some (r1, r2)) :
  Calls Try.prog 18 #[.string a0, .string a1] w fun e w' => e = .returned (.tuple #[.string r1, .string r2]) ∧ Below w.heap.size w w' := by
 have HB := Aside0.mk (Below.refl w.heap.size w)
 have H := h
 unfold galoisref01_DivMod.f at H
 clear h
 by_cases c3 : a1.toList = ([] : List UInt8)
 ·rw [if_pos c3] at H
  have c3b0 : (a1.toList == ([] : List UInt8)) = true := beq_iff_eq.mpr c3
  have c3b1 : (a1.toList != ([] : List UInt8)) = false := bne_eq_false_iff_eq.mpr c3
  clear c3
  simp only [Option.some.injEq, Prod.mk.injEq] at H
  obtain ⟨rfl, rfl⟩ := H
  go_enter Try.func18, Try.ntmps18
  go_wp2
  go_ret2
  exact ⟨ZE, ZB⟩
 ·rw [if_neg c3] at H
  have c3b0 : (a1.toList == ([] : List UInt8)) = false := beq_eq_false_iff_ne.mpr c3
  have c3b1 : (a1.toList != ([] : List UInt8)) = true := bne_iff_ne.mpr c3
  obtain ⟨t446, A4, H⟩ := ZO H
  obtain ⟨t449, A5, H⟩ := ZO H
  by_cases c6 : t446.length < 17592186044416
  ·rw [if_pos c6] at H
   have LMc6 := Aside0.mk c6
   clear c6
   obtain ⟨y452, hy452⟩ : ∃ y_ : List Int, y_ = (t446 ++ [0]) := ⟨_, rfl⟩
   replace H : (if 0 ≤ (mx 0 (wrap64 ((wrap64 ((t446.length : Int) - (t449.length : Int))) + 1))) then (if (mx 0 (wrap64 ((wrap64 ((t446.length : Int) - (t449.length : Int))) + 1)) : Int).toNat ≤ 35184372088832 then ((some (List.replicate (mx 0 (wrap64 ((wrap64 ((t446.length : Int) - (t449.length : Int))) + 1)) : Int).toNat 0 : List Int)).bind fun y455 => (galoisref01_DivMod.l0 k t449 (t449.length : Int) y452 y455 (wrap64 ((y455.length : Int) - 1)))) else (none)) else (none)) = some (r1, r2) := ZH hy452 H
   have Ny452 := Aside0.mk hy452
   clear hy452
   obtain ⟨ji7, hji7⟩ : ∃ j_ : Int, (mx 0 (wrap64 ((wrap64 ((t446.length : Int) - (t449.length : Int))) + 1))) = j_ := ⟨_, rfl⟩
   (first | rw [hji7] at H | simp only [hji7] at H)
   (try rw [hji7] at A4)
   (try rw [hji7] at A5)
   (try (have hji7l : 0 ≤ ji7 := by (rw [← hji7]; unfold mx; (repeat' split) <;> omega)))
   (try (have hji7m : 0 ≤ ji7 := by omega))
   have hji7_ : (if 0 < (wrap64 ((wrap64 ((t446.length : Int) - (t449.length : Int))) + 1)) then (wrap64 ((wrap64 ((t446.length : Int) - (t449.length : Int))) + 1)) else 0) = ji7 := hji7
   obtain ⟨c8, H⟩ := ZI H
   have c8b0 := eq_true c8
   have c8b1 : decide (0 ≤ (ji7)) = true := decide_eq_true c8
   clear c8
   obtain ⟨c9, H⟩ := ZI H
   have c9b0 := eq_true c9
   have c9b1 : decide ((ji7 : Int).toNat ≤ 35184372088832) = true := decide_eq_true c9
   clear c9
   obtain ⟨y455, hy455⟩ : ∃ y_ : List Int, y_ = (List.replicate (ji7 : Int).toNat 0) := ⟨_, rfl⟩
   replace H : (galoisref01_DivMod.l0 k t449 (t449.length : Int) y452 y455 (wrap64 ((y455.length : Int) - 1))) = some (r1, r2) := ZH hy455 H
   have Ny455 := Aside0.mk hy455
   clear hy455
   have H' := Aside0.mk H
   clear H
   go_enter Try.func18, Try.ntmps18
   go_wp2_with (first | ((with_reducible refine gate_callee (f := 51) rfl ?_); refine goesL_ (some 19) rfl rfl Try.func51 (by kernel_rfl) rfl #[.string a0] rfl ZA ?_; (with_reducible refine (galoisref01_limbs.calls k a0 t446 _ A4.out).mono ?_); rintro e w10 ⟨v447, rfl, ho0, hb⟩; refine ⟨_, rfl, ?_⟩; have HO448 := Aside0.mk (Kd.R_lower ho0 (below_size ZB)); replace HB := Aside0.mk (below_step ZB hb); (try clear hb); (try clear ho0); obtain ⟨Ao14, co14, eo14⟩ := Kd.R_slice HO448.out; subst eo14) | ((with_reducible refine gate_callee (f := 51) rfl ?_); refine goesL_ (some 21) rfl rfl Try.func51 (by kernel_rfl) rfl #[.string a1] rfl ZA ?_; (with_reducible refine (galoisref01_limbs.calls k a1 t449 _ A5.out).mono ?_); rintro e w11 ⟨v450, rfl, ho0, hb⟩; refine ⟨_, rfl, ?_⟩; have HO451 := Aside0.mk (Kd.R_lower (Kd.R_new' ho0 (Kd.R_lt (ZR HO448.out))) (below_size ZB)); replace HO448 := Aside0.mk (Kd.R_elder' (ZR HO448.out) (Kd.R_base ho0) hb); replace HB := Aside0.mk (below_step ZB hb); (try clear hb); (try clear ho0); obtain ⟨Ao12, co12, eo12⟩ := Kd.R_slice HO451.out; subst eo12) | ((with_reducible refine gate_builtin (b := .append) (xs := #[.tmp 24, .tmp 25]) rfl ?_); at_builtin; refine Kd.R_append (Kd.int .u64) (w0 := w) w.heap.size rfl (.tmp 24) (.tmp 25) 68 49 (.int .u64 0) 8 rfl Try.underlying68 info49 rfl (by decide) (by omega) (.slice Ao14 t446.length co14) t446 0 [.int .u64 0] (fun k_ => some k_ ≠ (.slice Ao12 t449.length co12 : Value).ownBlock) (fun _ => False) rfl rfl ?aP (fun _ hk => hk.elim) ?aF ?aO ?aB ?aS ?aL ?_; (case aP => exact rfl); (case aB => exact ZB); (case aF => exact (fun k_ hk => Kd.fresh' (Kd.R_lt (ZR HO451.out)) k_ hk)); (case aO => exact (by (with_reducible repeat (first | apply Kd.R_alloc | apply Kd.R_drewN | apply Kd.R_drew)); exact Kd.R_mono HO448.out (fun _ hk => hk.2))); (case aS => exact (below_size ZB)); (case aL => have := LMc6.out; omega); intro v453 w13 ho hb hg hat; rw [← Ny452.out] at ho; replace HO451 := Aside0.mk (Kd.R_after (ok := (fun _ => True)) (ZR HO451.out) hg hat); replace HB := Aside0.mk (hb); have HO454 := Aside0.mk (ho); clear HO448; clear ho hb hg hat) | ((with_reducible refine gate_dst (N := 33) rfl ?_); refine Kd.R_make (Kd.int .u64) _ 49 rfl (N := 33) rfl 68 _ _ rfl ji7 rfl rfl Try.underlying68 (.int .u64 0) 8 info49 rfl (by decide) (by omega) 0 (ok := fun _ => True) (okp := fun _ => True) rfl (fun _ hk => hk) trivial (of_decide_eq_true ZD) (Nat.le_trans (Nat.mul_le_mul_right _ (of_decide_eq_true ZD : ji7.toNat ≤ 35184372088832)) (by omega)) (Below.refl _ _) (Nat.le_refl _) ?_; intro v456 w15 ho16 hb hg_ hnew_; clear hg_ hnew_; (first | rw [← Ny455.out] at ho16 | (simp only [Int.reduceToNat] at ho16; rw [← Ny455.out] at ho16)); have HO457 := Aside0.mk (Kd.R_lower (Kd.R_new' (Kd.R_new' ho16 (Kd.R_lt (ZR HO451.out))) (Kd.R_lt (ZR HO454.out))) (below_size ZB)); replace HO451 := Aside0.mk (Kd.R_elder' (ZR HO451.out) (Kd.R_base ho16) hb); replace HO454 := Aside0.mk (Kd.R_elder' (ZR HO454.out) (Kd.R_base ho16) hb); replace HB := Aside0.mk (below_step ZB hb); clear hb ho16; obtain ⟨Ao17, co17, eo17⟩ := Kd.R_slice HO457.out; subst eo17))
   go_loopg [11] k (fun kq v11 w' => ∃ (x9_1 : List Int) (x10_1 : List Int) (x11_1 : Int), v11 = .int .i64 x11_1 ∧ Aside0 (galoisref01_DivMod.l0 kq t449 (t449.length : Int) x9_1 x10_1 x11_1 = some (r1, r2)) ∧ Aside0 (kq ≤ k) ∧ Aside0 (Kd.R (Kd.int .u64) 49 w' w.heap.size (fun k_ => some k_ ≠ (v453 : Value).ownBlock ∧ some k_ ≠ ((.slice Ao17 y455.length co17) : Value).ownBlock) (.slice Ao12 t449.length co12) t449) ∧ Aside0 (Kd.R (Kd.int .u64) 49 w' w.heap.size (fun k_ => some k_ ≠ ((.slice Ao12 t449.length co12) : Value).ownBlock ∧ some k_ ≠ ((.slice Ao17 y455.length co17) : Value).ownBlock) v453 x9_1) ∧ Aside0 (Kd.R (Kd.int .u64) 49 w' w.heap.size (fun k_ => some k_ ≠ ((.slice Ao12 t449.length co12) : Value).ownBlock ∧ some k_ ≠ (v453 : Value).ownBlock) (.slice Ao17 y455.length co17) x10_1) ∧ Aside0 (Below w.heap.size w w'))
   case atStart => exact ⟨(y452), (y455), (wrap64 ((y455.length : Int) - 1)), ZS, H', ⟨Nat.le_refl _⟩, ⟨by (with_reducible repeat (first | apply Kd.R_alloc | apply Kd.R_drewN | apply Kd.R_drew)); exact Kd.R_mono HO451.out (fun _ hk => ⟨hk.1.2, hk.2⟩)⟩, ⟨by (with_reducible repeat (first | apply Kd.R_alloc | apply Kd.R_drewN | apply Kd.R_drew)); exact HO454.out⟩, ⟨by (with_reducible repeat (first | apply Kd.R_alloc | apply Kd.R_drewN | apply Kd.R_drew)); exact Kd.R_mono HO457.out (fun _ hk => ⟨hk.1.2, hk.2⟩)⟩, ⟨ZB⟩⟩
   case round =>
    clear H'
    try clear c3
    try clear c3b0
    try clear c3b1
    try clear c6
    try clear c8
    try clear c8b0
    try clear c8b1
    try clear c9
    try clear c9b0
    try clear c9b1
    obtain ⟨x9_1, x10_1, x11_1, rfl, HA, HK1, HO_7, HO_9, HO_10, HB⟩ := hrel
    have hl10_1 := (Kd.R_reads' HO_10.out).1
    rw [hl10_1] at HO_10
    (try simp only [hl10_1])
    (try simp only [hl10_1] at HO_7)
    (try simp only [hl10_1] at HO_9)
    cases gk with
    | zero => exact absurd HA.out (by simp [galoisref01_DivMod.l0])
    | succ k1 =>
     have H := HA.out
     clear HA
     simp only [galoisref01_DivMod.l0] at H
     by_cases c18 : x11_1 ≥ 0
     ·rw [if_pos c18] at H
      have c18b0 : decide (0 ≤ x11_1) = true := decide_eq_true c18
      clear c18
      have H' := Aside0.mk H
      clear H
      go_wp2
      go_loopg [] k1 (fun kq w' => ∃ (x9_2 : List Int) (x10_2 : List Int), Aside0 (galoisref01_DivMod.l1 kq t449 (t449.length : Int) x9_2 x10_2 x11_1 = some (r1, r2)) ∧ Aside0 (kq ≤ k1) ∧ Aside0 (Kd.R (Kd.int .u64) 49 w' w.heap.size (fun k_ => some k_ ≠ (v453 : Value).ownBlock ∧ some k_ ≠ ((.slice Ao17 x10_1.length co17) : Value).ownBlock) (.slice Ao12 t449.length co12) t449) ∧ Aside0 (Kd.R (Kd.int .u64) 49 w' w.heap.size (fun k_ => some k_ ≠ ((.slice Ao12 t449.length co12) : Value).ownBlock ∧ some k_ ≠ ((.slice Ao17 x10_1.length co17) : Value).ownBlock) v453 x9_2) ∧ Aside0 (Kd.R (Kd.int .u64) 49 w' w.heap.size (fun k_ => some k_ ≠ ((.slice Ao12 t449.length co12) : Value).ownBlock ∧ some k_ ≠ (v453 : Value).ownBlock) (.slice Ao17 x10_1.length co17) x10_2) ∧ Aside0 (Below w.heap.size w w'))
      case atStart => exact ⟨(x9_1), (x10_1), H', ⟨Nat.le_refl _⟩, ⟨by (try simp only [hl10_1]); (with_reducible repeat (first | apply Kd.R_alloc | apply Kd.R_drewN | apply Kd.R_drew)); exact HO_7.out⟩, ⟨by (try simp only [hl10_1]); (with_reducible repeat (first | apply Kd.R_alloc | apply Kd.R_drewN | apply Kd.R_drew)); exact HO_9.out⟩, ⟨by (try simp only [hl10_1]); (with_reducible repeat (first | apply Kd.R_alloc | apply Kd.R_drewN | apply Kd.R_drew)); exact HO_10.out⟩, ⟨ZB⟩⟩
      case round =>
       clear H'
       try clear c18
       try clear c18b0
       obtain ⟨x9_2, x10_2, HA, HK2, HO_7, HO_9, HO_10, HB⟩ := hrel
       have hl10_2 := (Kd.R_reads' HO_10.out).1
       rw [hl10_2] at HO_10
       (try simp only [hl10_2])
       (try simp only [hl10_2] at HO_7)
       (try simp only [hl10_2] at HO_9)
       cases gk with
       | zero => exact absurd HA.out (by simp [galoisref01_DivMod.l1])
       | succ k2 =>
        have H := HA.out
        clear HA
        simp only [galoisref01_DivMod.l1] at H
        obtain ⟨c19, H⟩ := ZI H
        have c19b0 := eq_true c19
        have c19b1 : decide (0 ≤ x11_1) = true := decide_eq_true c19
        clear c19
        obtain ⟨c20, H⟩ := ZI H
        have c20b0 := eq_true c20
        have c20b1 : decide (x11_1 ≤ (x9_2.length : Int)) = true := decide_eq_true c20
        (try (have c20b1y := c20b1; simp only [hl10_1, hl10_2] at c20b1y))
        clear c20
        obtain ⟨y460, hy460⟩ : ∃ y_ : List Int, y_ = (x9_2.drop (x11_1 : Int).toNat) := ⟨_, rfl⟩
        replace H : ((galoisref01_below.f k2 y460 t449).bind fun t464 => (if t464 = true then (galoisref01_DivMod.l0 k2 t449 (t449.length : Int) x9_2 x10_2 (wrap64 (x11_1 - 1))) else (if 0 ≤ (wrap64 (x11_1 + (t449.length : Int))) then (if (wrap64 (x11_1 + (t449.length : Int))) < (x9_2.length : Int) then (if 0 ≤ (wrap64 ((wrap64 (x11_1 + (t449.length : Int))) - 1)) then (if (wrap64 ((wrap64 (x11_1 + (t449.length : Int))) - 1)) < (x9_2.length : Int) then (if 0 ≤ (wrap64 ((t449.length : Int) - 1)) then (if (wrap64 ((t449.length : Int) - 1)) < (t449.length : Int) then (if (IntKind.u64.wrap ((rd t449 (wrap64 ((t449.length : Int) - 1))) + 1)) = 0 then (none) else (if x11_1 < (x10_2.length : Int) then (galoisref01_DivMod.l2 k2 t449 (t449.length : Int) x9_2 (x10_2.set (x11_1 : Int).toNat (IntKind.u64.wrap ((rd x10_2 x11_1) + (mx 1 (IntKind.u64.wrap (Int.tdiv (IntKind.u64.wrap ((IntKind.u64.wrap ((rd x9_2 (wrap64 (x11_1 + (t449.length : Int)))) * 4294967296)) + (rd x9_2 (wrap64 ((wrap64 (x11_1 + (t449.length : Int))) - 1))))) (IntKind.u64.wrap ((rd t449 (wrap64 ((t449.length : Int) - 1))) + 1)))))))) x11_1 (mx 1 (IntKind.u64.wrap (Int.tdiv (IntKind.u64.wrap ((IntKind.u64.wrap ((rd x9_2 (wrap64 (x11_1 + (t449.length : Int)))) * 4294967296)) + (rd x9_2 (wrap64 ((wrap64 (x11_1 + (t449.length : Int))) - 1))))) (IntKind.u64.wrap ((rd t449 (wrap64 ((t449.length : Int) - 1))) + 1))))) 0 0) else (none))) else (none)) else (none)) else (none)) else (none)) else (none)) else (none)))) = some (r1, r2) := ZH hy460 H
        have Ny460 := Aside0.mk hy460
        clear hy460
        obtain ⟨t464, A21, H⟩ := ZO H
        by_cases c22 : t464 = true
        ·subst c22
         rw [if_pos rfl] at H
         have H' := Aside0.mk H
         clear H
         obtain ⟨Ao24, co24, eo24⟩ := Kd.R_slice HO_9.out
         subst eo24
         have q23 : (x11_1 : Int) ≤ ((x9_2.length : Int) : Int) := of_decide_eq_true ZD
         obtain ⟨i023, hi023, _, hsz23, _⟩ := info_parts info49
         have hroom23 : x9_2.length ≤ co24 := (Kd.R_reads' HO_9.out).2.1
         have hC23 : Kd.C (Kd.int .u64) _ Ao24 x9_2.length x9_2 := (Kd.R_reads' HO_9.out).2.2
         have q023 : (0 : Int) ≤ (x11_1 : Int) := of_decide_eq_true ZD
         have hcut23 := cut_from (P := Try.prog) 68 49 .i64 Try.underlying68 hi023 1 hsz23 Ao24 x9_2.length co24 x11_1 q023 q23
         have hr23 := Kd.C_drop (m := (x11_1 : Int).toNat) (c := co24) hC23 (by omega) hroom23
         obtain ⟨A23, hA23⟩ : ∃ A1, A1 = (if co24 = (x11_1 : Int).toNat then Ao24 else (Ao24 : Option Addr).map (·.add ((x11_1 : Int).toNat * 1))) := ⟨_, rfl⟩
         obtain ⟨c23, hc23⟩ : ∃ c1, c1 = co24 - (x11_1 : Int).toNat := ⟨_, rfl⟩
         have hy23 : y460.length = x9_2.length - (x11_1 : Int).toNat := (by rw [Ny460.out, List.length_drop] <;> omega)
         rw [show (x9_2).drop (x11_1 : Int).toNat = y460 from Ny460.out.symm] at hr23
         replace hr23 : Kd.C (Kd.int .u64) _ A23 y460.length y460 := (by rw [hA23]; exact hr23)
         rw [← hy23, ← hA23, ← hc23] at hcut23
         (try simp only [hl10_1, hl10_2] at hcut23)
         have HR463 := Aside0.mk hr23
         have HC463 := Aside0.mk (show y460.length ≤ c23 from by rw [hy23, hc23]; exact Nat.sub_le_sub_right hroom23 _)
         clear hr23 hC23 hroom23 hi023 hsz23 hc23
         have KY23 := Aside0.mk hy23
         have KA23 := Aside0.mk hA23
         clear hy23 hA23
         have KL23 := Aside0.mk (show (x11_1 : Int).toNat ≤ x9_2.length from by omega)
         replace q23 := eq_true q23
         go_wp2_with (first | ((with_reducible refine gate_callee (f := 52) rfl ?_); refine goesL_ (some 45) rfl rfl Try.func52 (by kernel_rfl) rfl #[.slice A23 y460.length c23, .slice Ao12 t449.length co12] rfl ZA ?_; (with_reducible refine (galoisref01_below.calls k2 _ _ y460 _ _ t449 true _ ?side1 ?side2 ?side3 ?side4 A21.out).mono ?_); (case side1 => repeat (first | exact (by repeat (first | (with_reducible exact HR463.out) | (with_reducible refine Kd.C_alloc ?_ _) | (with_reducible refine Kd.C_drewN ?_ _) | (with_reducible refine Kd.C_drew ?_) | exact HR463.out)) | (with_reducible refine Kd.C_alloc ?_ _) | (with_reducible refine Kd.C_drewN ?_ _) | (with_reducible refine Kd.C_drew ?_))); (case side2 => exact HC463.out); (case side3 => exact ZC (Kd.R_reads' HO_7.out).2.2); (case side4 => exact (Kd.R_reads' HO_7.out).2.1); rintro e w25 ⟨rfl, hb⟩; refine ⟨_, rfl, ?_⟩; replace HO_7 := Aside0.mk (Kd.R_below (ZR HO_7.out) hb); replace HO_9 := Aside0.mk (Kd.R_below (ZR HO_9.out) hb); replace HO_10 := Aside0.mk (Kd.R_below (ZR HO_10.out) hb); replace HR463 := Aside0.mk (Kd.C_below (by repeat (first | (with_reducible exact HR463.out) | (with_reducible refine Kd.C_alloc ?_ _) | (with_reducible refine Kd.C_drewN ?_ _) | (with_reducible refine Kd.C_drew ?_) | exact HR463.out)) hb); replace HB := Aside0.mk (below_step ZB hb); (try clear hb)))
         (try simp only [← hl10_1, ← hl10_2])
         go_roundg k2
         case measure => have := HK1.out; have := HK2.out; omega
         case rel => exact ⟨(x9_2), (x10_2), (wrap64 (x11_1 - 1)), ZS, H', ⟨by have := HK1.out; have := HK2.out; omega⟩, ⟨by (try simp only [hl10_1]); (try simp only [hl10_2]); (with_reducible repeat (first | apply Kd.R_alloc | apply Kd.R_drewN | apply Kd.R_drew)); exact HO_7.out⟩, ⟨by (try simp only [hl10_1]); (try simp only [hl10_2]); (with_reducible repeat (first | apply Kd.R_alloc | apply Kd.R_drewN | apply Kd.R_drew)); exact HO_9.out⟩, ⟨by (try simp only [hl10_1]); (try simp only [hl10_2]); (with_reducible repeat (first | apply Kd.R_alloc | apply Kd.R_drewN | apply Kd.R_drew)); exact HO_10.out⟩, ⟨ZB⟩⟩
        ·replace c22 := Bool.eq_false_iff.mpr c22
         subst c22
         rw [if_neg Bool.false_ne_true] at H
         obtain ⟨ji26, hji26⟩ : ∃ j_ : Int, (wrap64 (x11_1 + (t449.length : Int))) = j_ := ⟨_, rfl⟩
         (first | rw [hji26] at H | simp only [hji26] at H)
         (try rw [hji26] at A21)
         have hji26w : (IntKind.i64.wrap (x11_1 + (t449.length : Int))) = ji26 := (i64_w _).trans hji26
         obtain ⟨c27, H⟩ := ZI H
         have c27b0 : decide (0 ≤ (ji26)) = true := decide_eq_true c27
         clear c27
         obtain ⟨c28, H⟩ := ZI H
         have c28b0 : decide ((ji26) < (x9_2.length : Int)) = true := decide_eq_true c28
         (try (have c28b0y := c28b0; simp only [hl10_1, hl10_2] at c28b0y))
         clear c28
         obtain ⟨ji29, hji29⟩ : ∃ j_ : Int, (wrap64 ((ji26) - 1)) = j_ := ⟨_, rfl⟩
         (first | rw [hji29] at H | simp only [hji29] at H)
         (try rw [hji29] at A21)
         have hji29w : (IntKind.i64.wrap ((ji26) - 1)) = ji29 := (i64_w _).trans hji29
         obtain ⟨c30, H⟩ := ZI H
         have c30b0 : decide (0 ≤ (ji29)) = true := decide_eq_true c30
         clear c30
         obtain ⟨c31, H⟩ := ZI H
         have c31b0 : decide ((ji29) < (x9_2.length : Int)) = true := decide_eq_true c31
         (try (have c31b0y := c31b0; simp only [hl10_1, hl10_2] at c31b0y))
         clear c31
         obtain ⟨ji32, hji32⟩ : ∃ j_ : Int, (wrap64 ((t449.length : Int) - 1)) = j_ := ⟨_, rfl⟩
         (first | rw [hji32] at H | simp only [hji32] at H)
         (try rw [hji32] at A21)
         have hji32w : (IntKind.i64.wrap ((t449.length : Int) - 1)) = ji32 := (i64_w _).trans hji32
         obtain ⟨c33, H⟩ := ZI H
         have c33b0 : decide (0 ≤ (ji32)) = true := decide_eq_true c33
         clear c33
         obtain ⟨c34, H⟩ := ZI H
         have c34b0 : decide ((ji32) < (t449.length : Int)) = true := decide_eq_true c34
         (try (have c34b0y := c34b0; simp only [hl10_1, hl10_2] at c34b0y))
         clear c34
         obtain ⟨c35, H⟩ := ZJ H
         have c35b0 : ((IntKind.u64.wrap ((rd t449 (ji32)) + 1)) == 0) = false := beq_eq_false_iff_ne.mpr c35
         have c35b1 : ((IntKind.u64.wrap ((rd t449 (ji32)) + 1)) != 0) = true := bne_iff_ne.mpr c35
         obtain ⟨ji36, hji36⟩ : ∃ j_ : Int, (mx 1 (IntKind.u64.wrap (Int.tdiv (IntKind.u64.wrap ((IntKind.u64.wrap ((rd x9_2 (ji26)) * 4294967296)) + (rd x9_2 (ji29)))) (IntKind.u64.wrap ((rd t449 (ji32)) + 1))))) = j_ := ⟨_, rfl⟩
         (first | rw [hji36] at H | simp only [hji36] at H)
         (try rw [hji36] at A21)
         have hji36_ : (if 1 < (IntKind.u64.wrap (Int.tdiv (IntKind.u64.wrap ((IntKind.u64.wrap ((rd x9_2 (ji26)) * 4294967296)) + (rd x9_2 (ji29)))) (IntKind.u64.wrap ((rd t449 (ji32)) + 1)))) then (IntKind.u64.wrap (Int.tdiv (IntKind.u64.wrap ((IntKind.u64.wrap ((rd x9_2 (ji26)) * 4294967296)) + (rd x9_2 (ji29)))) (IntKind.u64.wrap ((rd t449 (ji32)) + 1)))) else 1) = ji36 := hji36
         obtain ⟨c37, H⟩ := ZI H
         have c37b0 : decide (x11_1 < (x10_2.length : Int)) = true := decide_eq_true c37
         (try (have c37b0y := c37b0; simp only [hl10_1, hl10_2] at c37b0y))
         clear c37
         obtain ⟨y469, hy469⟩ : ∃ y_ : List Int, y_ = (x10_2.set (x11_1 : Int).toNat (IntKind.u64.wrap ((rd x10_2 x11_1) + (ji36)))) := ⟨_, rfl⟩
         replace H : (galoisref01_DivMod.l2 k2 t449 (t449.length : Int) x9_2 y469 x11_1 ji36 0 0) = some (r1, r2) := ZH hy469 H
         have Ny469 := Aside0.mk hy469
         clear hy469
         have H' := Aside0.mk H
         clear H
         obtain ⟨Ao40, co40, eo40⟩ := Kd.R_slice HO_9.out
         subst eo40
         have q39 : (x11_1 : Int) ≤ ((x9_2.length : Int) : Int) := of_decide_eq_true ZD
         obtain ⟨i039, hi039, _, hsz39, _⟩ := info_parts info49
         have hroom39 : x9_2.length ≤ co40 := (Kd.R_reads' HO_9.out).2.1
         have hC39 : Kd.C (Kd.int .u64) _ Ao40 x9_2.length x9_2 := (Kd.R_reads' HO_9.out).2.2
         have q039 : (0 : Int) ≤ (x11_1 : Int) := of_decide_eq_true ZD
         have hcut39 := cut_from (P := Try.prog) 68 49 .i64 Try.underlying68 hi039 1 hsz39 Ao40 x9_2.length co40 x11_1 q039 q39
         have hr39 := Kd.C_drop (m := (x11_1 : Int).toNat) (c := co40) hC39 (by omega) hroom39
         obtain ⟨A39, hA39⟩ : ∃ A1, A1 = (if co40 = (x11_1 : Int).toNat then Ao40 else (Ao40 : Option Addr).map (·.add ((x11_1 : Int).toNat * 1))) := ⟨_, rfl⟩
         obtain ⟨c39, hc39⟩ : ∃ c1, c1 = co40 - (x11_1 : Int).toNat := ⟨_, rfl⟩
         have hy39 : y460.length = x9_2.length - (x11_1 : Int).toNat := (by rw [Ny460.out, List.length_drop] <;> omega)
         rw [show (x9_2).drop (x11_1 : Int).toNat = y460 from Ny460.out.symm] at hr39
         replace hr39 : Kd.C (Kd.int .u64) _ A39 y460.length y460 := (by rw [hA39]; exact hr39)
         rw [← hy39, ← hA39, ← hc39] at hcut39
         (try simp only [hl10_1, hl10_2] at hcut39)
         have HR463 := Aside0.mk hr39
         have HC463 := Aside0.mk (show y460.length ≤ c39 from by rw [hy39, hc39]; exact Nat.sub_le_sub_right hroom39 _)
         clear hr39 hC39 hroom39 hi039 hsz39 hc39
         have KY39 := Aside0.mk hy39
         have KA39 := Aside0.mk hA39
         clear hy39 hA39
         have KL39 := Aside0.mk (show (x11_1 : Int).toNat ≤ x9_2.length from by omega)
         replace q39 := eq_true q39
         try go_wp2_with (first | ((with_reducible refine gate_callee (f := 52) rfl ?_); refine goesL_ (some 45) rfl rfl Try.func52 (by kernel_rfl) rfl #[.slice A39 y460.length c39, .slice Ao12 t449.length co12] rfl ZA ?_; (with_reducible refine (galoisref01_below.calls k2 _ _ y460 _ _ t449 false _ ?side1 ?side2 ?side3 ?side4 A21.out).mono ?_); (case side1 => repeat (first | exact (by repeat (first | (with_reducible exact HR463.out) | (with_reducible refine Kd.C_alloc ?_ _) | (with_reducible refine Kd.C_drewN ?_ _) | (with_reducible refine Kd.C_drew ?_) | exact HR463.out)) | (with_reducible refine Kd.C_alloc ?_ _) | (with_reducible refine Kd.C_drewN ?_ _) | (with_reducible refine Kd.C_drew ?_))); (case side2 => exact HC463.out); (case side3 => exact ZC (Kd.R_reads' HO_7.out).2.2); (case side4 => exact (Kd.R_reads' HO_7.out).2.1); rintro e w41 ⟨rfl, hb⟩; refine ⟨_, rfl, ?_⟩; replace HO_7 := Aside0.mk (Kd.R_below (ZR HO_7.out) hb); replace HO_9 := Aside0.mk (Kd.R_below (ZR HO_9.out) hb); replace HO_10 := Aside0.mk (Kd.R_below (ZR HO_10.out) hb); replace HR463 := Aside0.mk (Kd.C_below (by repeat (first | (with_reducible exact HR463.out) | (with_reducible refine Kd.C_alloc ?_ _) | (with_reducible refine Kd.C_drewN ?_ _) | (with_reducible refine Kd.C_drew ?_) | exact HR463.out)) hb); replace HB := Aside0.mk (below_step ZB hb); (try clear hb)))
         replace HO_7 := Aside0.mk (Kd.R_drew HO_7.out)
         replace HO_9 := Aside0.mk (Kd.R_drew HO_9.out)
         replace HO_10 := Aside0.mk (Kd.R_drew HO_10.out)
         replace HR463 := Aside0.mk (Kd.C_drew HR463.out)
         replace HB := Aside0.mk (below_drew1 HB.out)
         have p465 : 0 ≤ ((ji26) : Int) := of_decide_eq_true ZD
         have q465 : (ji26) < (x9_2.length : Int) := of_decide_eq_true ZD
         obtain ⟨ad465, e465, hx465_0⟩ := Kd.at_int (Kd.R_reads' HO_9.out).2.2 (ji26) p465 q465
         cases e465
         replace p465 := eq_true p465
         replace q465 := eq_true q465
         have p466 : 0 ≤ ((ji29) : Int) := of_decide_eq_true ZD
         have q466 : (ji29) < (x9_2.length : Int) := of_decide_eq_true ZD
         obtain ⟨ad466, e466, hx466_0⟩ := Kd.at_int (Kd.R_reads' HO_9.out).2.2 (ji29) p466 q466
         obtain rfl : ad465 = ad466 := (by injection e466)
         replace p466 := eq_true p466
         replace q466 := eq_true q466
         have p467 : 0 ≤ ((ji32) : Int) := of_decide_eq_true ZD
         have q467 : (ji32) < (t449.length : Int) := of_decide_eq_true ZD
         obtain ⟨ad467, e467, hx467_0⟩ := Kd.at_int (Kd.R_reads' HO_7.out).2.2 (ji32) p467 q467
         cases e467
         replace p467 := eq_true p467
         replace q467 := eq_true q467
         refine start_ (n := 24) (S := fun w' => w'.cell? (ad465.add ((ji26)).toNat) = some (.int .u64 (rd x9_2 (ji26))) ∧ w'.cell? (ad465.add ((ji29)).toNat) = some (.int .u64 (rd x9_2 (ji29))) ∧ w'.cell? (ad467.add ((ji32)).toNat) = some (.int .u64 (rd t449 (ji32)))) (ds := []) #[false, false, false, false, false, false, false, false, false, false, false, false, false, false, false, false, false, false, false, false, false, false, false, false] (by kernel_rfl) rfl rfl ⟨hx465_0, hx466_0, hx467_0⟩ (fun hHeld => ?_); refine with_tabW galoisref01_DivMod.tab11 galoisref01_DivMod.bits11 (fun HT_ HW_ => ?_)
         generalize w41.drew = w42 at HO_7 HO_9 HO_10 HR463 HB hx465_0 hx466_0 hx467_0 hHeld ⊢
         refine ZP 0 47 #[true, false, false, false, false, false, false, false, false, false, false, false, false, false, false, false, false, false, false, false, false, false, false, false] ?_
         refine ZP 1 48 #[true, true, false, false, false, false, false, false, false, false, false, false, false, false, false, false, false, false, false, false, false, false, false, false] ?_
         refine ZP 2 49 #[true, true, true, false, false, false, false, false, false, false, false, false, false, false, false, false, false, false, false, false, false, false, false, false] ?_
         refine ZP 3 50 #[true, true, true, true, false, false, false, false, false, false, false, false, false, false, false, false, false, false, false, false, false, false, false, false] ?_
         refine ZP 4 51 #[true, true, true, true, true, false, false, false, false, false, false, false, false, false, false, false, false, false, false, false, false, false, false, false] ?_
         refine ZP 7 54 #[true, true, true, true, true, false, false, true, false, false, false, false, false, false, false, false, false, false, false, false, false, false, false, false] ?_
         refine ZP 8 55 #[true, true, true, true, true, false, false, true, true, false, false, false, false, false, false, false, false, false, false, false, false, false, false, false] ?_
         refine ZP 9 56 #[true, true, true, true, true, false, false, true, true, true, false, false, false, false, false, false, false, false, false, false, false, false, false, false] ?_
         refine ZP 10 57 #[true, true, true, true, true, false, false, true, true, true, true, false, false, false, false, false, false, false, false, false, false, false, false, false] ?_
         refine ZP 11 58 #[true, true, true, true, true, false, false, true, true, true, true, true, false, false, false, false, false, false, false, false, false, false, false, false] ?_
         refine ZP 12 59 #[true, true, true, true, true, false, false, true, true, true, true, true, true, false, false, false, false, false, false, false, false, false, false, false] ?_
         refine ZP 15 62 #[true, true, true, true, true, false, false, true, true, true, true, true, true, false, false, true, false, false, false, false, false, false, false, false] ?_
         refine ZP 16 63 #[true, true, true, true, true, false, false, true, true, true, true, true, true, false, false, true, true, false, false, false, false, false, false, false] ?_
         refine ZP 17 64 #[true, true, true, true, true, false, false, true, true, true, true, true, true, false, false, true, true, true, false, false, false, false, false, false] ?_
         refine ZP 18 65 #[true, true, true, true, true, false, false, true, true, true, true, true, true, false, false, true, true, true, true, false, false, false, false, false] ?_
         refine take_ (i := 5) (N := some 52) (v := ?_) (a' := ?_) #[true, true, true, true, true, true, false, true, true, true, true, true, true, false, false, true, true, true, true, false, false, false, false, false] rfl rfl (take_ofW HT_.out HW_.out (by kernel_rfl)) (fun _ _ _ h => h) (Or.inl ⟨by rfl, ?_⟩) hHeld ?_ ?_
         rotate_left
         ·rintro w' ⟨s0, s1, s2⟩
          (try simp only [Int.toNat_natCast] at s0 s1 s2)
          go_simp
          with_reducible rfl
         rotate_left
         ·simp only [Act.put, List.setIfInBounds_toArray, List.set_cons_zero, List.set_cons_succ, i64_w, i32_w]
          rfl
         refine ZP 6 53 #[true, true, true, true, true, true, true, true, true, true, true, true, true, false, false, true, true, true, true, false, false, false, false, false] ?_
         refine take_ (i := 13) (N := some 60) (v := ?_) (a' := ?_) #[true, true, true, true, true, true, true, true, true, true, true, true, true, true, false, true, true, true, true, false, false, false, false, false] rfl rfl (take_ofW HT_.out HW_.out (by kernel_rfl)) (fun _ _ _ h => h) (Or.inl ⟨by rfl, ?_⟩) hHeld ?_ ?_
         rotate_left
         ·rintro w' ⟨s0, s1, s2⟩
          (try simp only [Int.toNat_natCast] at s0 s1 s2)
          go_simp
          with_reducible rfl
         rotate_left
         ·simp only [Act.put, List.setIfInBounds_toArray, List.set_cons_zero, List.set_cons_succ, i64_w, i32_w]
          rfl
         refine ZP 14 61 #[true, true, true, true, true, true, true, true, true, true, true, true, true, true, true, true, true, true, true, false, false, false, false, false] ?_
         refine take_ (i := 19) (N := some 66) (v := ?_) (a' := ?_) #[true, true, true, true, true, true, true, true, true, true, true, true, true, true, true, true, true, true, true, true, false, false, false, false] rfl rfl (take_ofW HT_.out HW_.out (by kernel_rfl)) (fun _ _ _ h => h) (Or.inl ⟨by rfl, ?_⟩) hHeld ?_ ?_
         rotate_left
         ·rintro w' ⟨s0, s1, s2⟩
          (try simp only [Int.toNat_natCast] at s0 s1 s2)
          go_simp
          with_reducible rfl
         rotate_left
         ·simp only [Act.put, List.setIfInBounds_toArray, List.set_cons_zero, List.set_cons_succ, i64_w, i32_w]
          rfl
         refine ZP 20 67 #[true, true, true, true, true, true, true, true, true, true, true, true, true, true, true, true, true, true, true, true, true, false, false, false] ?_
         refine ZP 21 68 #[true, true, true, true, true, true, true, true, true, true, true, true, true, true, true, true, true, true, true, true, true, true, false, false] ?_
         refine ZP 22 69 #[true, true, true, true, true, true, true, true, true, true, true, true, true, true, true, true, true, true, true, true, true, true, true, false] ?_
         refine ZP 23 12 #[true, true, true, true, true, true, true, true, true, true, true, true, true, true, true, true, true, true, true, true, true, true, true, true] ?_
         refine done_ (done_of HT_.out (by kernel_rfl)) ?_
         have p468 : 0 ≤ (x11_1 : Int) := of_decide_eq_true ZD
         have q468 : x11_1 < (x10_2.length : Int) := of_decide_eq_true ZD
         obtain ⟨ad468, e468, hx468_0⟩ := Kd.at_int (Kd.R_reads' HO_10.out).2.2 x11_1 p468 q468
         cases e468
         replace p468 := eq_true p468
         replace q468 := eq_true q468
         have p38 : 0 ≤ (x11_1 : Int) := of_decide_eq_true ZD
         have q38 : (x11_1 : Int) < ((x10_2.length : Int) : Int) := of_decide_eq_true ZD
         obtain ⟨go38, co38, eo38, gb38, gl38, cl38, HG38⟩ := Kd.R_form HO_10.out (by omega)
         (first | cases eo38 | (injection eo38 with ea_ en_ ec_; (first | subst ea_ | (injection ea_ with ea_; subst ea_)); subst ec_; clear en_))
         have GB38 := Aside0.mk gb38
         have GG38 := Aside0.mk HG38
         clear gb38 gl38 HG38
         (first | simp only [add_plain] at hx468_0 | skip)
         obtain ⟨hx38_0, hf38_0⟩ := Kd.R_celln 0 HO_10.out (x11_1 : Int) p38 q38; (try simp only [Int.toNat_natCast] at hx38_0 hf38_0)
         replace p38 := eq_true p38
         replace q38 := eq_true q38
         obtain ⟨hy43_, hz43_⟩ := Kd.R_celln 0 HO_10.out (x11_1 : Int) (of_decide_eq_true ZD) (of_decide_eq_true ZD); (try simp only [Int.toNat_natCast] at hy43_ hz43_)
         have HP43 := Kd.R_putg HO_10.out (x11_1 : Int) (IntKind.u64.wrap ((rd x10_2 x11_1) + (ji36)))
         try go_wp2_with (first | ((with_reducible refine gate_store (t := 49) (p := 78) rfl ?_); refine store_event (t := 49) (p := 78) (v := ?vo_w44) (w1 := (w42.setCell ⟨go38, (x11_1 : Int).toNat, none⟩ (.int .u64 (IntKind.u64.wrap ((rd x10_2 x11_1) + (ji36)))))) ?hg ?ho ?hn ?hr ?_; (case ho => rfl); (case hg => rfl); (case hn => rfl); (case hr => first | (go_simp; done) | (go_simp; rfl)); intro w44 hw; have hg : w42.grownBy w44 (some go38) := (by rw [hw]; exact HP43.2); have hp_ : Kd.R (Kd.int .u64) 49 w44 w.heap.size (fun k_ => some k_ ≠ (.slice (some ad467) t449.length co12 : Value).ownBlock ∧ some k_ ≠ (.slice (some ad465) x9_2.length co40 : Value).ownBlock) (.slice (some ⟨go38, 0, none⟩) x10_2.length co17) y469 := (by rw [hw, Ny469.out]; exact HP43.1); clear HP43; replace HO_7 := Aside0.mk (Kd.R_after (v := (.slice (some ⟨go38, 0, none⟩) x10_2.length co17)) (v1 := (.slice (some ⟨go38, 0, none⟩) x10_2.length co17)) (ok := (fun k_ => some k_ ≠ (.slice (some ad465) x9_2.length co40 : Value).ownBlock)) (ZR HO_7.out) hg (.inl rfl)); replace HO_10 := Aside0.mk (hp_); replace HB := Aside0.mk ((by rw [hw]; exact below_set (HB.out) GB38.out : Below w.heap.size w w44)); replace HR463 := Aside0.mk ((show Kd.C (Kd.int .u64) w44 A39 y460.length y460 from by rw [Ny460.out, KA39.out]; exact Kd.C_drop (m := (x11_1 : Int).toNat) (c := co40) ((Kd.R_reads' (Kd.R_after (v := (.slice (some ⟨go38, 0, none⟩) x10_2.length co17)) (v1 := (.slice (some ⟨go38, 0, none⟩) x10_2.length co17)) (ok := (fun k_ => some k_ ≠ (.slice (some ad467) t449.length co12 : Value).ownBlock)) (ZR HO_9.out) hg (.inl rfl))).2.2) KL39.out ((Kd.R_reads' (Kd.R_after (v := (.slice (some ⟨go38, 0, none⟩) x10_2.length co17)) (v1 := (.slice (some ⟨go38, 0, none⟩) x10_2.length co17)) (ok := (fun k_ => some k_ ≠ (.slice (some ad467) t449.length co12 : Value).ownBlock)) (ZR HO_9.out) hg (.inl rfl))).2.1))); replace HO_9 := Aside0.mk (Kd.R_after (v := (.slice (some ⟨go38, 0, none⟩) x10_2.length co17)) (v1 := (.slice (some ⟨go38, 0, none⟩) x10_2.length co17)) (ok := (fun k_ => some k_ ≠ (.slice (some ad467) t449.length co12 : Value).ownBlock)) (ZR HO_9.out) hg (.inl rfl)); clear hg hw hp_))
         (try generalize Value.pointer (some (Addr.add ad465 ji26.toNat)) = pt1_)
         (try generalize Value.pointer (some (Addr.add ad465 ji29.toNat)) = pt2_)
         go_loopg [13, 14] k2 (fun kq v13 v14 w' => ∃ (x9_3 : List Int) (x13_3 : Int) (x14_3 : Int), v13 = .int .u64 x13_3 ∧ v14 = .int .i64 x14_3 ∧ Aside0 (galoisref01_DivMod.l2 kq t449 (t449.length : Int) x9_3 y469 x11_1 ji36 x13_3 x14_3 = some (r1, r2)) ∧ Aside0 (kq ≤ k2) ∧ Aside0 (Kd.R (Kd.int .u64) 49 w' w.heap.size (fun k_ => some k_ ≠ ((.slice (some ad465) x9_2.length co40) : Value).ownBlock ∧ some k_ ≠ ((.slice (some ⟨go38, 0, none⟩) x10_2.length co17) : Value).ownBlock) (.slice (some ad467) t449.length co12) t449) ∧ Aside0 (Kd.R (Kd.int .u64) 49 w' w.heap.size (fun k_ => some k_ ≠ ((.slice (some ad467) t449.length co12) : Value).ownBlock ∧ some k_ ≠ ((.slice (some ⟨go38, 0, none⟩) x10_2.length co17) : Value).ownBlock) (.slice (some ad465) x9_2.length co40) x9_3) ∧ Aside0 (Kd.R (Kd.int .u64) 49 w' w.heap.size (fun k_ => some k_ ≠ ((.slice (some ad467) t449.length co12) : Value).ownBlock ∧ some k_ ≠ ((.slice (some ad465) x9_2.length co40) : Value).ownBlock) (.slice (some ⟨go38, 0, none⟩) x10_2.length co17) y469) ∧ Aside0 (Below w.heap.size w w'))
         case atStart => exact ⟨(x9_2), (0), (0), ZS, ZS, H', ⟨Nat.le_refl _⟩, ⟨by (try simp only [hl10_1]); (try simp only [hl10_2]); (with_reducible repeat (first | apply Kd.R_alloc | apply Kd.R_drewN | apply Kd.R_drew)); exact HO_7.out⟩, ⟨by (try simp only [hl10_1]); (try simp only [hl10_2]); (with_reducible repeat (first | apply Kd.R_alloc | apply Kd.R_drewN | apply Kd.R_drew)); exact HO_9.out⟩, ⟨by (try simp only [hl10_1]); (try simp only [hl10_2]); (with_reducible repeat (first | apply Kd.R_alloc | apply Kd.R_drewN | apply Kd.R_drew)); exact HO_10.out⟩, ⟨ZB⟩⟩
         case round =>
          clear H'
          try clear c1
          try clear c19
          try clear c19b0
          try clear c19b1
          try clear c20
          try clear c20b0
          try clear c20b1
          try clear c22
          try clear c27
          try clear c27b0
          try clear c28
          try clear c28b0
          try clear c30
          try clear c30b0
          try clear c31
          try clear c31b0
          try clear c33
          try clear c33b0
          try clear c34
          try clear c34b0
          try clear c35
          try clear c35b0
          try clear c35b1
          try clear c37
          try clear c37b0
          try clear p38
          try clear q38
          try clear c39
          try clear q39
          try clear hx38_0
          try clear hx465_0
          try clear hx466_0
          try clear hx467_0
          try clear hx468_0
          try clear p465
          try clear p466
          try clear p467
          try clear p468
          try clear q039
          try clear q465
          try clear q466
          try clear q467
          try clear q468
          obtain ⟨x9_3, x13_3, x14_3, rfl, rfl, HA, HK3, HO_7, HO_9, HO_10, HB⟩ := hrel
          have hl9_3 := (Kd.R_reads' HO_9.out).1
          rw [hl9_3] at HO_9
          (try simp only [hl9_3])
          (try simp only [hl9_3] at HO_7)
          (try simp only [hl9_3] at HO_10)
          have hl10_3 := (Kd.R_reads' HO_10.out).1
          rw [hl10_3] at HO_10
          (try simp only [hl10_3])
          (try simp only [hl10_3] at HO_7)
          (try simp only [hl10_3] at HO_9)
          cases gk with
          | zero => exact absurd HA.out (by simp [galoisref01_DivMod.l2])
          | succ k3 =>
           have H := HA.out
           clear HA
           simp only [galoisref01_DivMod.l2] at H
           by_cases c45 : x14_3 < (t449.length : Int)
           ·rw [if_pos c45] at H
            have c45b0 : decide (x14_3 < (t449.length : Int)) = true := decide_eq_true c45
            (try (have c45b0y := c45b0; simp only [hl10_1, hl10_2, hl9_3, hl10_3] at c45b0y))
            clear c45
            obtain ⟨c46, H⟩ := ZI H
            have c46b0 : decide (0 ≤ x14_3) = true := decide_eq_true c46
            clear c46
            obtain ⟨c47, H⟩ := ZI H
            have c47b0 : decide (x14_3 < (t449.length : Int)) = true := decide_eq_true c47
            (try (have c47b0y := c47b0; simp only [hl10_1, hl10_2, hl9_3, hl10_3] at c47b0y))
            clear c47
            obtain ⟨ji48, hji48⟩ : ∃ j_ : Int, (wrap64 (x11_1 + x14_3)) = j_ := ⟨_, rfl⟩
            (first | rw [hji48] at H | simp only [hji48] at H)
            have hji48w : (IntKind.i64.wrap (x11_1 + x14_3)) = ji48 := (i64_w _).trans hji48
            obtain ⟨c49, H⟩ := ZI H
            have c49b0 : decide (0 ≤ (ji48)) = true := decide_eq_true c49
            clear c49
            obtain ⟨c50, H⟩ := ZI H
            have c50b0 : decide ((ji48) < (x9_3.length : Int)) = true := decide_eq_true c50
            (try (have c50b0y := c50b0; simp only [hl10_1, hl10_2, hl9_3, hl10_3] at c50b0y))
            clear c50
            by_cases c51 : (rd x9_3 (ji48)) < (Go.bits .and .u64 (IntKind.u64.wrap ((IntKind.u64.wrap ((rd t449 x14_3) * ji36)) + x13_3)) 4294967295)
            ·rw [if_pos c51] at H
             have c51b0 : decide ((rd x9_3 (ji48)) < (Go.bits .and .u64 (IntKind.u64.wrap ((IntKind.u64.wrap ((rd t449 x14_3) * ji36)) + x13_3)) 4294967295)) = true := decide_eq_true c51
             clear c51
             obtain ⟨y473, hy473⟩ : ∃ y_ : List Int, y_ = (x9_3.set ((ji48) : Int).toNat (IntKind.u64.wrap ((rd x9_3 (ji48)) + 4294967296))) := ⟨_, rfl⟩
             replace H : (galoisref01_DivMod.l2 k3 t449 (t449.length : Int) (y473.set ((ji48) : Int).toNat (IntKind.u64.wrap ((rd y473 (ji48)) - (Go.bits .and .u64 (IntKind.u64.wrap ((IntKind.u64.wrap ((rd t449 x14_3) * ji36)) + x13_3)) 4294967295)))) y469 x11_1 ji36 (IntKind.u64.wrap (((IntKind.u64.wrap ((IntKind.u64.wrap ((rd t449 x14_3) * ji36)) + x13_3)) / 4294967296) + 1)) (wrap64 (x14_3 + 1))) = some (r1, r2) := ZH hy473 H
             have Ny473 := Aside0.mk hy473
             clear hy473
             generalize hy475 : (y473.set ((ji48) : Int).toNat (IntKind.u64.wrap ((rd y473 (ji48)) - (Go.bits .and .u64 (IntKind.u64.wrap ((IntKind.u64.wrap ((rd t449 x14_3) * ji36)) + x13_3)) 4294967295)))) = y475 at H
             have Ny475 := Aside0.mk hy475.symm
             clear hy475
             have H' := Aside0.mk H
             clear H
             have p470 : 0 ≤ (x14_3 : Int) := of_decide_eq_true ZD
             have q470 : x14_3 < (t449.length : Int) := of_decide_eq_true ZD
             obtain ⟨ad470, e470, hx470_0⟩ := Kd.at_int (Kd.R_reads' HO_7.out).2.2 x14_3 p470 q470
             obtain rfl : ad467 = ad470 := (by injection e470)
             replace p470 := eq_true p470
             replace q470 := eq_true q470
             have p471 : 0 ≤ ((ji48) : Int) := of_decide_eq_true ZD
             have q471 : (ji48) < (x9_3.length : Int) := of_decide_eq_true ZD
             obtain ⟨ad471, e471, hx471_0⟩ := Kd.at_int (Kd.R_reads' HO_9.out).2.2 (ji48) p471 q471
             obtain rfl : ad465 = ad471 := (by injection e471)
             replace p471 := eq_true p471
             replace q471 := eq_true q471
             have p472 : 0 ≤ ((ji48) : Int) := of_decide_eq_true ZD
             have q472 : (ji48) < (x9_3.length : Int) := of_decide_eq_true ZD
             obtain ⟨ad472, e472, hx472_0⟩ := Kd.at_int (Kd.R_reads' HO_9.out).2.2 (ji48) p472 q472
             obtain rfl : ad465 = ad472 := (by injection e472)
             replace p472 := eq_true p472
             replace q472 := eq_true q472
             have p52 : 0 ≤ ((ji48) : Int) := of_decide_eq_true ZD
             have q52 : ((ji48) : Int) < ((x9_3.length : Int) : Int) := of_decide_eq_true ZD
             obtain ⟨go52, co52, eo52, gb52, gl52, cl52, HG52⟩ := Kd.R_form HO_9.out (by omega)
             (first | cases eo52 | (injection eo52 with ea_ en_ ec_; (first | subst ea_ | (injection ea_ with ea_; subst ea_)); subst ec_; clear en_))
             have GB52 := Aside0.mk gb52
             have GG52 := Aside0.mk HG52
             clear gb52 gl52 HG52
             (first | simp only [add_plain] at hx465_0 | skip)
             (first | simp only [add_plain] at hx466_0 | skip)
             (first | simp only [add_plain] at hx471_0 | skip)
             (first | simp only [add_plain] at hx472_0 | skip)
             obtain ⟨hx52_0, hf52_0⟩ := Kd.R_celln 0 HO_9.out ((ji48) : Int) p52 q52; (try simp only [Int.toNat_natCast] at hx52_0 hf52_0)
             replace p52 := eq_true p52
             replace q52 := eq_true q52
             have HP54 := Kd.R_putg HO_9.out ((ji48) : Int) (IntKind.u64.wrap ((rd x9_3 (ji48)) + 4294967296))
             go_wp2_with (first | ((with_reducible refine gate_store (t := 49) (p := 114) rfl ?_); refine store_event (t := 49) (p := 114) (v := ?vo_w55) (w1 := (wr.setCell ⟨go52, ((ji48) : Int).toNat, none⟩ (.int .u64 (IntKind.u64.wrap ((rd x9_3 (ji48)) + 4294967296))))) ?hg ?ho ?hn ?hr ?_; (case ho => rfl); (case hg => rfl); (case hn => rfl); (case hr => first | (go_simp; done) | (go_simp; rfl)); intro w55 hw; have hg : wr.grownBy w55 (some go52) := (by rw [hw]; exact HP54.2); have hp_ : Kd.R (Kd.int .u64) 49 w55 w.heap.size (fun k_ => some k_ ≠ (.slice (some ad467) t449.length co12 : Value).ownBlock ∧ some k_ ≠ (.slice (some ⟨go38, 0, none⟩) y469.length co17 : Value).ownBlock) (.slice (some ⟨go52, 0, none⟩) x9_3.length co40) y473 := (by rw [hw, Ny473.out]; exact HP54.1); clear HP54; replace HO_7 := Aside0.mk (Kd.R_after (v := (.slice (some ⟨go52, 0, none⟩) x9_3.length co40)) (v1 := (.slice (some ⟨go52, 0, none⟩) x9_3.length co40)) (ok := (fun k_ => some k_ ≠ (.slice (some ⟨go38, 0, none⟩) y469.length co17 : Value).ownBlock)) (by (with_reducible repeat (first | apply Kd.R_alloc | apply Kd.R_drewN | apply Kd.R_drew)); exact Kd.R_mono HO_7.out (fun _ hk => ⟨hk.2, hk.1⟩)) hg (.inl rfl)); replace HO_9 := Aside0.mk (hp_); replace HO_10 := Aside0.mk (Kd.R_after (v := (.slice (some ⟨go52, 0, none⟩) x9_3.length co40)) (v1 := (.slice (some ⟨go52, 0, none⟩) x9_3.length co40)) (ok := (fun k_ => some k_ ≠ (.slice (some ad467) t449.length co12 : Value).ownBlock)) (ZR HO_10.out) hg (.inl rfl)); replace HB := Aside0.mk ((by rw [hw]; exact below_set (HB.out) GB52.out : Below w.heap.size w w55)); clear hg hw hp_; have p474 : 0 ≤ ((ji48) : Int) := of_decide_eq_true ZD; have q474 : (ji48) < (y473.length : Int) := (by have h_ : ((ji48) : Int) < ((x9_3.length : Int) : Int) := of_decide_eq_true ZD; first | (have e_ := (Kd.R_reads' HO_9.out).1; omega) | simpa only [Ny473.out, List.length_set] using h_); have ql474 : (((ji48) : Int) < ((x9_3.length : Int) : Int)) = True := eq_true (of_decide_eq_true ZD); obtain ⟨ad474, e474, hx474_0⟩ := Kd.at_int (Kd.R_reads' HO_9.out).2.2 (ji48) p474 q474; obtain rfl : (⟨go52, 0, none⟩ : Addr) = ad474 := (by injection e474); (first | simp only [add_plain] at hx474_0 | simp only [add_at] at hx474_0 | simp only [Addr.add, Nat.zero_add] at hx474_0 | skip); replace p474 := eq_true p474; replace q474 := eq_true q474; have p53 : 0 ≤ ((ji48) : Int) := of_decide_eq_true ZD; have q53 : ((ji48) : Int) < ((x9_3.length : Int) : Int) := of_decide_eq_true ZD; obtain ⟨hx53_0, hf53_0⟩ := Kd.R_celln 0 HO_9.out ((ji48) : Int) p53 q53; (try simp only [Int.toNat_natCast] at hx53_0 hf53_0); replace p53 := eq_true p53; replace q53 := eq_true q53; obtain ⟨hy56_, hz56_⟩ := Kd.R_celln 0 HO_9.out ((ji48) : Int) (of_decide_eq_true ZD) (of_decide_eq_true ZD); (try simp only [Int.toNat_natCast] at hy56_ hz56_); have HP56 := Kd.R_putg HO_9.out ((ji48) : Int) (IntKind.u64.wrap ((rd y473 (ji48)) - (Go.bits .and .u64 (IntKind.u64.wrap ((IntKind.u64.wrap ((rd t449 x14_3) * ji36)) + x13_3)) 4294967295)))) | ((with_reducible refine gate_store (t := 49) (p := 130) rfl ?_); refine store_event (t := 49) (p := 130) (v := ?vo_w57) (w1 := (w55.setCell ⟨go52, ((ji48) : Int).toNat, none⟩ (.int .u64 (IntKind.u64.wrap ((rd y473 (ji48)) - (Go.bits .and .u64 (IntKind.u64.wrap ((IntKind.u64.wrap ((rd t449 x14_3) * ji36)) + x13_3)) 4294967295)))))) ?hg ?ho ?hn ?hr ?_; (case ho => rfl); (case hg => rfl); (case hn => rfl); (case hr => first | (go_simp; done) | (go_simp; rfl)); intro w57 hw; have hg : w55.grownBy w57 (some go52) := (by rw [hw]; exact HP56.2); have hp_ : Kd.R (Kd.int .u64) 49 w57 w.heap.size (fun k_ => some k_ ≠ (.slice (some ad467) t449.length co12 : Value).ownBlock ∧ some k_ ≠ (.slice (some ⟨go38, 0, none⟩) y469.length co17 : Value).ownBlock) (.slice (some ⟨go52, 0, none⟩) x9_3.length co40) y475 := (by rw [hw, Ny475.out]; exact HP56.1); clear HP56; replace HO_7 := Aside0.mk (Kd.R_after (v := (.slice (some ⟨go52, 0, none⟩) x9_3.length co40)) (v1 := (.slice (some ⟨go52, 0, none⟩) x9_3.length co40)) (ok := (fun k_ => some k_ ≠ (.slice (some ⟨go38, 0, none⟩) y469.length co17 : Value).ownBlock)) (ZR HO_7.out) hg (.inl rfl)); replace HO_9 := Aside0.mk (hp_); replace HO_10 := Aside0.mk (Kd.R_after (v := (.slice (some ⟨go52, 0, none⟩) x9_3.length co40)) (v1 := (.slice (some ⟨go52, 0, none⟩) x9_3.length co40)) (ok := (fun k_ => some k_ ≠ (.slice (some ad467) t449.length co12 : Value).ownBlock)) (ZR HO_10.out) hg (.inl rfl)); replace HB := Aside0.mk ((by rw [hw]; exact below_set (HB.out) GB52.out : Below w.heap.size w w57)); clear hg hw hp_))
             (try simp only [← hl9_3, ← hl10_3])
             go_roundg k3
             case measure => have := HK1.out; have := HK2.out; have := HK3.out; omega
             case rel => exact ⟨(y475), (IntKind.u64.wrap (((IntKind.u64.wrap ((IntKind.u64.wrap ((rd t449 x14_3) * ji36)) + x13_3)) / 4294967296) + 1)), (wrap64 (x14_3 + 1)), (by first | rfl | (simp; done) | (simp only [← hji36] <;> (first | rfl | simp)) | (simp [*]; done)), ZS, H', ⟨by have := HK1.out; have := HK2.out; have := HK3.out; omega⟩, ⟨by (try simp only [hl10_1]); (try simp only [hl10_2]); (try simp only [hl9_3]); (try simp only [hl10_3]); (with_reducible repeat (first | apply Kd.R_alloc | apply Kd.R_drewN | apply Kd.R_drew)); exact Kd.R_mono HO_7.out (fun _ hk => ⟨hk.2, hk.1⟩)⟩, ⟨by (try simp only [hl10_1]); (try simp only [hl10_2]); (try simp only [hl9_3]); (try simp only [hl10_3]); (with_reducible repeat (first | apply Kd.R_alloc | apply Kd.R_drewN | apply Kd.R_drew)); exact HO_9.out⟩, ⟨by (try simp only [hl10_1]); (try simp only [hl10_2]); (try simp only [hl9_3]); (try simp only [hl10_3]); (with_reducible repeat (first | apply Kd.R_alloc | apply Kd.R_drewN | apply Kd.R_drew)); exact HO_10.out⟩, ⟨ZB⟩⟩
            ·rw [if_neg c51] at H
             have c51b0 : decide ((rd x9_3 (ji48)) < (Go.bits .and .u64 (IntKind.u64.wrap ((IntKind.u64.wrap ((rd t449 x14_3) * ji36)) + x13_3)) 4294967295)) = false := decide_eq_false c51
             clear c51
             obtain ⟨y477, hy477⟩ : ∃ y_ : List Int, y_ = (x9_3.set ((ji48) : Int).toNat (IntKind.u64.wrap ((rd x9_3 (ji48)) - (Go.bits .and .u64 (IntKind.u64.wrap ((IntKind.u64.wrap ((rd t449 x14_3) * ji36)) + x13_3)) 4294967295)))) := ⟨_, rfl⟩
             replace H : (galoisref01_DivMod.l2 k3 t449 (t449.length : Int) y477 y469 x11_1 ji36 ((IntKind.u64.wrap ((IntKind.u64.wrap ((rd t449 x14_3) * ji36)) + x13_3)) / 4294967296) (wrap64 (x14_3 + 1))) = some (r1, r2) := ZH hy477 H
             have Ny477 := Aside0.mk hy477
             clear hy477
             have H' := Aside0.mk H
             clear H
             have p470 : 0 ≤ (x14_3 : Int) := of_decide_eq_true ZD
             have q470 : x14_3 < (t449.length : Int) := of_decide_eq_true ZD
             obtain ⟨ad470, e470, hx470_0⟩ := Kd.at_int (Kd.R_reads' HO_7.out).2.2 x14_3 p470 q470
             obtain rfl : ad467 = ad470 := (by injection e470)
             replace p470 := eq_true p470
             replace q470 := eq_true q470
             have p471 : 0 ≤ ((ji48) : Int) := of_decide_eq_true ZD
             have q471 : (ji48) < (x9_3.length : Int) := of_decide_eq_true ZD
             obtain ⟨ad471, e471, hx471_0⟩ := Kd.at_int (Kd.R_reads' HO_9.out).2.2 (ji48) p471 q471
             obtain rfl : ad465 = ad471 := (by injection e471)
             replace p471 := eq_true p471
             replace q471 := eq_true q471
             have p476 : 0 ≤ ((ji48) : Int) := of_decide_eq_true ZD
             have q476 : (ji48) < (x9_3.length : Int) := of_decide_eq_true ZD
             obtain ⟨ad476, e476, hx476_0⟩ := Kd.at_int (Kd.R_reads' HO_9.out).2.2 (ji48) p476 q476
             obtain rfl : ad465 = ad476 := (by injection e476)
             replace p476 := eq_true p476
             replace q476 := eq_true q476
             have p58 : 0 ≤ ((ji48) : Int) := of_decide_eq_true ZD
             have q58 : ((ji48) : Int) < ((x9_3.length : Int) : Int) := of_decide_eq_true ZD
             obtain ⟨go58, co58, eo58, gb58, gl58, cl58, HG58⟩ := Kd.R_form HO_9.out (by omega)
             (first | cases eo58 | (injection eo58 with ea_ en_ ec_; (first | subst ea_ | (injection ea_ with ea_; subst ea_)); subst ec_; clear en_))
             have GB58 := Aside0.mk gb58
             have GG58 := Aside0.mk HG58
             clear gb58 gl58 HG58
             (first | simp only [add_plain] at hx471_0 | skip)
             (first | simp only [add_plain] at hx476_0 | skip)
             obtain ⟨hx58_0, hf58_0⟩ := Kd.R_celln 0 HO_9.out ((ji48) : Int) p58 q58; (try simp only [Int.toNat_natCast] at hx58_0 hf58_0)
             replace p58 := eq_true p58
             replace q58 := eq_true q58
             have HP59 := Kd.R_putg HO_9.out ((ji48) : Int) (IntKind.u64.wrap ((rd x9_3 (ji48)) - (Go.bits .and .u64 (IntKind.u64.wrap ((IntKind.u64.wrap ((rd t449 x14_3) * ji36)) + x13_3)) 4294967295)))
             go_wp2_with (first | ((with_reducible refine gate_store (t := 49) (p := 130) rfl ?_); refine store_event (t := 49) (p := 130) (v := ?vo_w60) (w1 := (wr.setCell ⟨go58, ((ji48) : Int).toNat, none⟩ (.int .u64 (IntKind.u64.wrap ((rd x9_3 (ji48)) - (Go.bits .and .u64 (IntKind.u64.wrap ((IntKind.u64.wrap ((rd t449 x14_3) * ji36)) + x13_3)) 4294967295)))))) ?hg ?ho ?hn ?hr ?_; (case ho => rfl); (case hg => rfl); (case hn => rfl); (case hr => first | (go_simp; done) | (go_simp; rfl)); intro w60 hw; have hg : wr.grownBy w60 (some go58) := (by rw [hw]; exact HP59.2); have hp_ : Kd.R (Kd.int .u64) 49 w60 w.heap.size (fun k_ => some k_ ≠ (.slice (some ad467) t449.length co12 : Value).ownBlock ∧ some k_ ≠ (.slice (some ⟨go38, 0, none⟩) y469.length co17 : Value).ownBlock) (.slice (some ⟨go58, 0, none⟩) x9_3.length co40) y477 := (by rw [hw, Ny477.out]; exact HP59.1); clear HP59; replace HO_7 := Aside0.mk (Kd.R_after (v := (.slice (some ⟨go58, 0, none⟩) x9_3.length co40)) (v1 := (.slice (some ⟨go58, 0, none⟩) x9_3.length co40)) (ok := (fun k_ => some k_ ≠ (.slice (some ⟨go38, 0, none⟩) y469.length co17 : Value).ownBlock)) (by (with_reducible repeat (first | apply Kd.R_alloc | apply Kd.R_drewN | apply Kd.R_drew)); exact Kd.R_mono HO_7.out (fun _ hk => ⟨hk.2, hk.1⟩)) hg (.inl rfl)); replace HO_9 := Aside0.mk (hp_); replace HO_10 := Aside0.mk (Kd.R_after (v := (.slice (some ⟨go58, 0, none⟩) x9_3.length co40)) (v1 := (.slice (some ⟨go58, 0, none⟩) x9_3.length co40)) (ok := (fun k_ => some k_ ≠ (.slice (some ad467) t449.length co12 : Value).ownBlock)) (ZR HO_10.out) hg (.inl rfl)); replace HB := Aside0.mk ((by rw [hw]; exact below_set (HB.out) GB58.out : Below w.heap.size w w60)); clear hg hw hp_))
             (try simp only [← hl9_3, ← hl10_3])
             go_roundg k3
             case measure => have := HK1.out; have := HK2.out; have := HK3.out; omega
             case rel => exact ⟨(y477), ((IntKind.u64.wrap ((IntKind.u64.wrap ((rd t449 x14_3) * ji36)) + x13_3)) / 4294967296), (wrap64 (x14_3 + 1)), (by first | rfl | (simp; done) | (simp only [← hji36] <;> (first | rfl | simp)) | (simp [*]; done)), ZS, H', ⟨by have := HK1.out; have := HK2.out; have := HK3.out; omega⟩, ⟨by (try simp only [hl10_1]); (try simp only [hl10_2]); (try simp only [hl9_3]); (try simp only [hl10_3]); (with_reducible repeat (first | apply Kd.R_alloc | apply Kd.R_drewN | apply Kd.R_drew)); exact Kd.R_mono HO_7.out (fun _ hk => ⟨hk.2, hk.1⟩)⟩, ⟨by (try simp only [hl10_1]); (try simp only [hl10_2]); (try simp only [hl9_3]); (try simp only [hl10_3]); (with_reducible repeat (first | apply Kd.R_alloc | apply Kd.R_drewN | apply Kd.R_drew)); exact HO_9.out⟩, ⟨by (try simp only [hl10_1]); (try simp only [hl10_2]); (try simp only [hl9_3]); (try simp only [hl10_3]); (with_reducible repeat (first | apply Kd.R_alloc | apply Kd.R_drewN | apply Kd.R_drew)); exact HO_10.out⟩, ⟨ZB⟩⟩
           ·rw [if_neg c45] at H
            have c45b0 : decide (x14_3 < (t449.length : Int)) = false := decide_eq_false c45
            (try (have c45b0y := c45b0; simp only [hl10_1, hl10_2, hl9_3, hl10_3] at c45b0y))
            clear c45
            (first | rw [hji26] at H | simp only [hji26] at H)
            obtain ⟨c62, H⟩ := ZI H
            have c62b0 : decide (0 ≤ (ji26)) = true := decide_eq_true c62
            clear c62
            obtain ⟨c63, H⟩ := ZI H
            have c63b0 : decide ((ji26) < (x9_3.length : Int)) = true := decide_eq_true c63
            (try (have c63b0y := c63b0; simp only [hl10_1, hl10_2, hl9_3, hl10_3] at c63b0y))
            clear c63
            obtain ⟨y479, hy479⟩ : ∃ y_ : List Int, y_ = (x9_3.set ((ji26) : Int).toNat (IntKind.u64.wrap ((rd x9_3 (ji26)) - x13_3))) := ⟨_, rfl⟩
            replace H : (galoisref01_DivMod.l1 k3 t449 (t449.length : Int) y479 y469 x11_1) = some (r1, r2) := ZH hy479 H
            have Ny479 := Aside0.mk hy479
            clear hy479
            have H' := Aside0.mk H
            clear H
            have p478 : 0 ≤ ((ji26) : Int) := of_decide_eq_true ZD
            have q478 : (ji26) < (x9_3.length : Int) := of_decide_eq_true ZD
            obtain ⟨ad478, e478, hx478_0⟩ := Kd.at_int (Kd.R_reads' HO_9.out).2.2 (ji26) p478 q478
            obtain rfl : ad465 = ad478 := (by injection e478)
            replace p478 := eq_true p478
            replace q478 := eq_true q478
            have p64 : 0 ≤ ((ji26) : Int) := of_decide_eq_true ZD
            have q64 : ((ji26) : Int) < ((x9_3.length : Int) : Int) := of_decide_eq_true ZD
            obtain ⟨go64, co64, eo64, gb64, gl64, cl64, HG64⟩ := Kd.R_form HO_9.out (by omega)
            (first | cases eo64 | (injection eo64 with ea_ en_ ec_; (first | subst ea_ | (injection ea_ with ea_; subst ea_)); subst ec_; clear en_))
            have GB64 := Aside0.mk gb64
            have GG64 := Aside0.mk HG64
            clear gb64 gl64 HG64
            (first | simp only [add_plain] at hx478_0 | skip)
            obtain ⟨hx64_0, hf64_0⟩ := Kd.R_celln 0 HO_9.out ((ji26) : Int) p64 q64; (try simp only [Int.toNat_natCast] at hx64_0 hf64_0)
            replace p64 := eq_true p64
            replace q64 := eq_true q64
            have HP65 := Kd.R_putg HO_9.out ((ji26) : Int) (IntKind.u64.wrap ((rd x9_3 (ji26)) - x13_3))
            go_wp2_with (first | ((with_reducible refine gate_store (t := 49) (p := 143) rfl ?_); refine store_event (t := 49) (p := 143) (v := ?vo_w66) (w1 := (wr.setCell ⟨go64, ((ji26) : Int).toNat, none⟩ (.int .u64 (IntKind.u64.wrap ((rd x9_3 (ji26)) - x13_3))))) ?hg ?ho ?hn ?hr ?_; (case ho => rfl); (case hg => rfl); (case hn => rfl); (case hr => first | (go_simp; done) | (go_simp; rfl)); intro w66 hw; have hg : wr.grownBy w66 (some go64) := (by rw [hw]; exact HP65.2); have hp_ : Kd.R (Kd.int .u64) 49 w66 w.heap.size (fun k_ => some k_ ≠ (.slice (some ad467) t449.length co12 : Value).ownBlock ∧ some k_ ≠ (.slice (some ⟨go38, 0, none⟩) y469.length co17 : Value).ownBlock) (.slice (some ⟨go64, 0, none⟩) x9_3.length co40) y479 := (by rw [hw, Ny479.out]; exact HP65.1); clear HP65; replace HO_7 := Aside0.mk (Kd.R_after (v := (.slice (some ⟨go64, 0, none⟩) x9_3.length co40)) (v1 := (.slice (some ⟨go64, 0, none⟩) x9_3.length co40)) (ok := (fun k_ => some k_ ≠ (.slice (some ⟨go38, 0, none⟩) y469.length co17 : Value).ownBlock)) (by (with_reducible repeat (first | apply Kd.R_alloc | apply Kd.R_drewN | apply Kd.R_drew)); exact Kd.R_mono HO_7.out (fun _ hk => ⟨hk.2, hk.1⟩)) hg (.inl rfl)); replace HO_9 := Aside0.mk (hp_); replace HO_10 := Aside0.mk (Kd.R_after (v := (.slice (some ⟨go64, 0, none⟩) x9_3.length co40)) (v1 := (.slice (some ⟨go64, 0, none⟩) x9_3.length co40)) (ok := (fun k_ => some k_ ≠ (.slice (some ad467) t449.length co12 : Value).ownBlock)) (ZR HO_10.out) hg (.inl rfl)); replace HB := Aside0.mk ((by rw [hw]; exact below_set (HB.out) GB64.out : Below w.heap.size w w66)); clear hg hw hp_))
            (try simp only [← hl10_2, ← hl9_3, ← hl10_3])
            go_roundg k3
            case measure => have := HK1.out; have := HK2.out; have := HK3.out; omega
            case rel => exact ⟨(y479), (y469), H', ⟨by have := HK1.out; have := HK2.out; have := HK3.out; omega⟩, ⟨by (try simp only [hl10_1]); (try simp only [hl10_2]); (try simp only [hl9_3]); (try simp only [hl10_3]); (with_reducible repeat (first | apply Kd.R_alloc | apply Kd.R_drewN | apply Kd.R_drew)); exact Kd.R_mono HO_7.out (fun _ hk => ⟨hk.2, hk.1⟩)⟩, ⟨by (try simp only [hl10_1]); (try simp only [hl10_2]); (try simp only [hl9_3]); (try simp only [hl10_3]); (with_reducible repeat (first | apply Kd.R_alloc | apply Kd.R_drewN | apply Kd.R_drew)); exact HO_9.out⟩, ⟨by (try simp only [hl10_1]); (try simp only [hl10_2]); (try simp only [hl9_3]); (try simp only [hl10_3]); (with_reducible repeat (first | apply Kd.R_alloc | apply Kd.R_drewN | apply Kd.R_drew)); exact HO_10.out⟩, ⟨ZB⟩⟩
     ·rw [if_neg c18] at H
      have c18b0 : decide (0 ≤ x11_1) = false := decide_eq_false c18
      clear c18
      obtain ⟨t458, A67, H⟩ := ZO H
      obtain ⟨t459, A68, H⟩ := ZO H
      simp only [Option.some.injEq, Prod.mk.injEq] at H
      obtain ⟨rfl, rfl⟩ := H
      go_wp2_with (first | ((with_reducible refine gate_callee (f := 53) rfl ?_); refine goesL_ (some 145) rfl rfl Try.func53 (by kernel_rfl) rfl #[.slice Ao17 x10_1.length co17] rfl ZA ?_; (with_reducible refine (galoisref01_pack.calls k1 _ _ x10_1 t458 _ ?side1 ?side2 A67.out).mono ?_); (case side1 => exact ZC (Kd.R_reads' HO_10.out).2.2); (case side2 => exact (Kd.R_reads' HO_10.out).2.1); rintro e w69 ⟨rfl, hb⟩; refine ⟨_, rfl, ?_⟩; replace HO_7 := Aside0.mk (Kd.R_below (ZR HO_7.out) hb); replace HO_9 := Aside0.mk (Kd.R_below (ZR HO_9.out) hb); replace HO_10 := Aside0.mk (Kd.R_below (ZR HO_10.out) hb); replace HB := Aside0.mk (below_step ZB hb); (try clear hb); obtain ⟨Ao70, co70, eo70⟩ := Kd.R_slice HO_9.out; subst eo70) | ((with_reducible refine gate_callee (f := 53) rfl ?_); refine goesL_ (some 147) rfl rfl Try.func53 (by kernel_rfl) rfl #[.slice Ao70 x9_1.length co70] rfl ZA ?_; (with_reducible refine (galoisref01_pack.calls k1 _ _ x9_1 t459 _ ?side1 ?side2 A68.out).mono ?_); (case side1 => exact ZC (Kd.R_reads' HO_9.out).2.2); (case side2 => exact (Kd.R_reads' HO_9.out).2.1); rintro e w71 ⟨rfl, hb⟩; refine ⟨_, rfl, ?_⟩; replace HO_7 := Aside0.mk (Kd.R_below (ZR HO_7.out) hb); replace HO_9 := Aside0.mk (Kd.R_below (ZR HO_9.out) hb); replace HO_10 := Aside0.mk (Kd.R_below (ZR HO_10.out) hb); replace HB := Aside0.mk (below_step ZB hb); (try clear hb)))
      go_ret2
      exact ⟨by first | rfl | (simp [errW_none, errW_some] <;> rfl) | (simp only [← hji7]; first | rfl | (simp [errW_none, errW_some] <;> rfl)) | (simp [*, errW_none, errW_some] <;> rfl), ZB⟩
  ·rw [if_neg c6] at H
   exact absurd H (by simp)
end Go.Proofs.Ytohkmnbnjacfaaa.All
namespace Go.Proofs.Ytohkmnbnjacfaaa.All
open Go.Proofs.YtohkmnbnjacfaaaX
open Go.RowKit Go.Proofs.YtohkmnbnjacfaaaW.PrintWords Go.Proofs.YtohkmnbnjacfaaaW.PrintLast Go.Proofs.YtohkmnbnjacfaaaW.PrintMore
attribute [local go_sem] max2_int min2_int max_two min_two max_three min_three max_four min_four
set_option linter.unusedVariables false
set_option linter.unusedSimpArgs false
def natural_Sqrt.f (k : Nat) (a0 : ByteArray) : Option (ByteArray × Int) := (natural_Root.f k a0 2).bind fun bt498 => (some (bt498.1, bt498.2))
theorem natural_Sqrt.mono : ∀ a0 k, LeO (natural_Sqrt.f k a0) (natural_Sqrt.f (k + 1) a0) := by
 intro a0 k
 unfold natural_Sqrt.f
 repeat' first
   | (with_reducible exact natural_Root.mono _ _ _)
   | (with_reducible exact LeO.refl _)
   | (with_reducible exact LeO.none _)
   | (with_reducible refine LeO.ite ?_ ?_)
   | (with_reducible refine LeO.bind ?_ (fun _ => ?_))
set_option maxHeartbeats 8000000 in
set_option maxRecDepth 100000 in
theorem natural_Sqrt.calls (k : Nat) (a0 : ByteArray) (r1 : ByteArray) (r2 : Int) (w : World) (h : natural_Sqrt.f k a0 = some (r1, r2)) :
  Calls Try.prog 22 #[.string a0] w fun e w' => e = .returned (.tuple #[.string r1, .int .i64 r2]) ∧ Below w.heap.size w w' := by
 have HB := Aside0.mk (Below.refl w.heap.size w)
 have H := h
 unfold natural_Sqrt.f at H
 clear h
 obtain ⟨⟨t498, t499⟩, A2, H⟩ := ZO H
 (try dsimp only at H)
 simp only [Option.some.injEq, Prod.mk.injEq] at H
 obtain ⟨rfl, rfl⟩ := H
 go_enter Try.func22, Try.ntmps22
 go_wp2_with (first | ((with_reducible refine gate_callee (f := 21) rfl ?_); refine goesL_ (some 5) rfl rfl Try.func21 (by kernel_rfl) rfl #[.string a0, .int .i64 2] rfl ZA ?_; (with_reducible refine (natural_Root.calls k a0 2 t498 t499 _ A2.out).mono ?_); rintro e w3 ⟨rfl, hb⟩; refine ⟨_, rfl, ?_⟩; replace HB := Aside0.mk (below_step ZB hb); (try clear hb)))
 go_ret2
 exact ⟨ZE, ZB⟩
def natural_Bits.f (k : Nat) (a0 : ByteArray) : Option (Int × Int) := (natural_first.f k (([a0] : List ByteArray))).bind fun t503 => (if t503 = 0 then ((exact_NatBits.f a0).bind fun t504 => (some (t504, 0))) else (some (0, t503)))
theorem natural_Bits.mono : ∀ a0 k, LeO (natural_Bits.f k a0) (natural_Bits.f (k + 1) a0) := by
 intro a0 k
 unfold natural_Bits.f
 repeat' first
   | (with_reducible exact natural_first.mono _ _)
   | (with_reducible exact LeO.refl _)
   | (with_reducible exact LeO.none _)
   | (with_reducible refine LeO.ite ?_ ?_)
   | (with_reducible refine LeO.bind ?_ (fun _ => ?_))
set_option maxHeartbeats 8000000 in
set_option maxRecDepth 100000 in
theorem natural_Bits.calls (k : Nat) (a0 : ByteArray) (r1 : Int) (r2 : Int) (w : World) (h : natural_Bits.f k a0 = some (r1, r2)) :
  Calls Try.prog 23 #[.string a0] w fun e w' => e = .returned (.tuple #[.int .i64 r1, .int .i64 r2]) ∧ Below w.heap.size w w' := by
 have HB := Aside0.mk (Below.refl w.heap.size w)
 have H := h
 unfold natural_Bits.f at H
 clear h
 generalize hy500 : (([a0] : List ByteArray)) = y500 at H
 have Ny500 := Aside0.mk hy500.symm
 clear hy500
 obtain ⟨t503, A2, H⟩ := ZO H
 by_cases c3 : t503 = 0
 ·rw [if_pos c3] at H
  have c3b0 : (t503 == 0) = true := beq_iff_eq.mpr c3
  have c3b1 : (t503 != 0) = false := bne_eq_false_iff_eq.mpr c3
  clear c3
  obtain ⟨t504, A4, H⟩ := ZO H
  simp only [Option.some.injEq, Prod.mk.injEq] at H
  obtain ⟨rfl, rfl⟩ := H
  go_enter Try.func23, Try.ntmps23
  go_wp2_with (first | ((with_reducible refine gate_dst (N := 6) rfl ?_); refine Kd.R_lit Kd.string _ 22 ?hg (N := 6) ?hd (xs := ([a0] : List ByteArray)) (inner := [.string a0]) (ok := fun _ => True) (okp := fun _ => True) ?hr ?hp (fun _ hk => hk) trivial (Below.refl _ _) (Nat.le_refl _) (by simp) ?_; (case hd => rfl); (case hg => rfl); (case hr => first | (go_simp; done) | (go_simp; rfl)); (case hp => exact (Reps.one (show Kd.M Kd.string _ _ _ a0 [.string a0] from rfl) (Reps.none _ _))); intro v501 w5 ho6 hb hg_ hnew_; clear hg_ hnew_; (first | rw [← Ny500.out] at ho6 | (simp only [Int.reduceToNat] at ho6; rw [← Ny500.out] at ho6)); have HO502 := Aside0.mk (Kd.R_lower ho6 (below_size ZB)); replace HB := Aside0.mk (below_step ZB hb); clear hb ho6; obtain ⟨Ao7, co7, eo7⟩ := Kd.R_slice HO502.out; subst eo7) | ((with_reducible refine gate_callee (f := 47) rfl ?_); refine goesL_ (some 7) rfl rfl Try.func47 (by kernel_rfl) rfl #[.slice Ao7 y500.length co7] rfl ZA ?_; (with_reducible refine (natural_first.calls k _ _ y500 t503 _ ?side1 ?side2 A2.out).mono ?_); (case side1 => exact ZC (Kd.R_reads' HO502.out).2.2); (case side2 => exact (Kd.R_reads' HO502.out).2.1); rintro e w' ⟨rfl, ⟨nd, rfl⟩⟩; refine ⟨_, rfl, ?_⟩) | ((with_reducible refine gate_callee (f := 54) rfl ?_); refine goesL_ (some 12) rfl rfl Try.func54 (by kernel_rfl) rfl #[.string a0] rfl ZA ?_; (with_reducible refine (exact_NatBits.calls a0 t504 _ A4.out).mono ?_); rintro e w' ⟨rfl, ⟨nd, rfl⟩⟩; refine ⟨_, rfl, ?_⟩))
  go_ret2
  exact ⟨ZE, ZB⟩
 ·rw [if_neg c3] at H
  have c3b0 : (t503 == 0) = false := beq_eq_false_iff_ne.mpr c3
  have c3b1 : (t503 != 0) = true := bne_iff_ne.mpr c3
  simp only [Option.some.injEq, Prod.mk.injEq] at H
  obtain ⟨rfl, rfl⟩ := H
  go_enter Try.func23, Try.ntmps23
  go_wp2_with (first | ((with_reducible refine gate_dst (N := 6) rfl ?_); refine Kd.R_lit Kd.string _ 22 ?hg (N := 6) ?hd (xs := ([a0] : List ByteArray)) (inner := [.string a0]) (ok := fun _ => True) (okp := fun _ => True) ?hr ?hp (fun _ hk => hk) trivial (Below.refl _ _) (Nat.le_refl _) (by simp) ?_; (case hd => rfl); (case hg => rfl); (case hr => first | (go_simp; done) | (go_simp; rfl)); (case hp => exact (Reps.one (show Kd.M Kd.string _ _ _ a0 [.string a0] from rfl) (Reps.none _ _))); intro v501 w8 ho9 hb hg_ hnew_; clear hg_ hnew_; (first | rw [← Ny500.out] at ho9 | (simp only [Int.reduceToNat] at ho9; rw [← Ny500.out] at ho9)); have HO502 := Aside0.mk (Kd.R_lower ho9 (below_size ZB)); replace HB := Aside0.mk (below_step ZB hb); clear hb ho9; obtain ⟨Ao10, co10, eo10⟩ := Kd.R_slice HO502.out; subst eo10) | ((with_reducible refine gate_callee (f := 47) rfl ?_); refine goesL_ (some 7) rfl rfl Try.func47 (by kernel_rfl) rfl #[.slice Ao10 y500.length co10] rfl ZA ?_; (with_reducible refine (natural_first.calls k _ _ y500 t503 _ ?side1 ?side2 A2.out).mono ?_); (case side1 => exact ZC (Kd.R_reads' HO502.out).2.2); (case side2 => exact (Kd.R_reads' HO502.out).2.1); rintro e w' ⟨rfl, ⟨nd, rfl⟩⟩; refine ⟨_, rfl, ?_⟩))
  go_ret2
  exact ⟨ZE, ZB⟩
def galoisref01_Bits.l0 : Nat → Int → Int → Option (Int)
 | 0, _, _ => none
 | k + 1, x3, x4 => if x4 > 0 then (galoisref01_Bits.l0 k (wrap64 (x3 + 1)) ((Int.tdiv x4 2) % 256)) else (some x3)
def galoisref01_Bits.f (k : Nat) (a0 : ByteArray) : Option (Int) := if a0.toList = ([] : List UInt8) then (some 0) else (if 0 < (a0.size : Int) then (galoisref01_Bits.l0 k (wrap64 (8 * (wrap64 ((a0.size : Int) - 1)))) (bt a0 0)) else (none))
theorem galoisref01_Bits.U1 {g : Prop} (h : g := by
 repeat' first
 | (with_reducible exact ih0 _ _)
 | (with_reducible exact LeO.refl _)
 | (with_reducible exact LeO.none _)
 | (with_reducible refine LeO.ite ?_ ?_)
 | (with_reducible refine LeO.bind ?_ (fun _ => ?_))) : g := h
theorem galoisref01_Bits.mono_l : ∀ k, (∀ y0 y1, LeO (galoisref01_Bits.l0 k y0 y1) (galoisref01_Bits.l0 (k + 1) y0 y1))
 | 0 => fun _ _ r h => by simp [galoisref01_Bits.l0] at h
 | k + 1 => by
  have ih0 := galoisref01_Bits.mono_l k
  ·intro y0 y1
   unfold galoisref01_Bits.l0
   exact galoisref01_Bits.U1
theorem galoisref01_Bits.mono : ∀ a0 k, LeO (galoisref01_Bits.f k a0) (galoisref01_Bits.f (k + 1) a0) := by
 intro a0 k
 have ih0 := galoisref01_Bits.mono_l k
 unfold galoisref01_Bits.f
 exact galoisref01_Bits.U1
set_option maxHeartbeats 8000000 in
set_option maxRecDepth 100000 in
theorem galoisref01_Bits.calls (k : Nat) (a0 : ByteArray) (r : Int) (w : World) (h : galoisref01_Bits.f k a0 = some r) :
  Calls Try.prog 26 #[.string a0] w fun e w' => e = .returned (.int .i64 r) ∧ Drawn0 w w' := by
 have H := h
 unfold galoisref01_Bits.f at H
 clear h
 by_cases c2 : a0.toList = ([] : List UInt8)
 ·rw [if_pos c2] at H
  have c2b0 : (a0.toList == ([] : List UInt8)) = true := beq_iff_eq.mpr c2
  have c2b1 : (a0.toList != ([] : List UInt8)) = false := bne_eq_false_iff_eq.mpr c2
  clear c2
  obtain rfl := Option.some.inj H
  go_enter Try.func26, Try.ntmps26
  go_wp2
  go_ret
  exact ⟨by first | rfl | (simp; done) | (simp [*]; done), by repeat (first | exact Drawn0.refl _ | apply Drawn0.step)⟩
 ·rw [if_neg c2] at H
  have c2b0 : (a0.toList == ([] : List UInt8)) = false := beq_eq_false_iff_ne.mpr c2
  have c2b1 : (a0.toList != ([] : List UInt8)) = true := bne_iff_ne.mpr c2
  by_cases c3 : 0 < (a0.size : Int)
  ·rw [if_pos c3] at H
   have c3b0 : decide (0 < (a0.size : Int)) = true := decide_eq_true c3
   have c3b1 : decide (0 < a0.size) = true := decide_eq_true (by omega)
   clear c3
   have H' := Aside0.mk H
   clear H
   have p4 : 0 ≤ (0 : Int) := (by omega)
   have q4 : 0 < a0.size := (by have : (0 : Int) < (a0.size : Int) := of_decide_eq_true ZD; omega)
   have hx4 : ∀ h : 0 < a0.size, ((a0[0]'h).toNat : Int) = bt a0 0 := bt_at a0 0
   clear p4
   have qi4 : (0 < (a0.size : Int)) = True := eq_true (of_decide_eq_true ZD)
   replace q4 := eq_true q4
   go_enter Try.func26, Try.ntmps26
   go_wp2
   go_loopg [3, 4] k (fun kq v3 v4 w' => ∃ (x3_1 : Int) (x4_1 : Int), v3 = .int .i64 x3_1 ∧ v4 = .int .u8 x4_1 ∧ Aside0 (galoisref01_Bits.l0 kq x3_1 x4_1 = some r) ∧ Aside0 (kq ≤ k) ∧ Drawn0 w w')
   case atStart => exact ⟨(wrap64 (8 * (wrap64 ((a0.size : Int) - 1)))), (bt a0 0), ZS, ZS, H', ⟨Nat.le_refl _⟩, by repeat (first | exact Drawn0.refl _ | apply Drawn0.step)⟩
   case round =>
    clear H'
    try clear c2
    try clear c2b0
    try clear c2b1
    try clear c3
    try clear c3b0
    try clear c3b1
    try clear p4
    try clear q4
    try clear hx4
    try clear qi4
    obtain ⟨x3_1, x4_1, rfl, rfl, HA, HK1, ⟨m1, rfl⟩⟩ := hrel
    cases gk with
    | zero => exact absurd HA.out (by simp [galoisref01_Bits.l0])
    | succ k1 =>
     have H := HA.out
     clear HA
     simp only [galoisref01_Bits.l0] at H
     by_cases c5 : x4_1 > 0
     ·rw [if_pos c5] at H
      have c5b0 : decide (0 < x4_1) = true := decide_eq_true c5
      clear c5
      have H' := Aside0.mk H
      clear H
      go_wp2
      go_roundg k1
      case measure => have := HK1.out; omega
      case rel => exact ⟨(wrap64 (x3_1 + 1)), ((Int.tdiv x4_1 2) % 256), ZS, ZS, H', ⟨by have := HK1.out; omega⟩, by repeat (first | exact Drawn0.refl _ | apply Drawn0.step)⟩
     ·rw [if_neg c5] at H
      have c5b0 : decide (0 < x4_1) = false := decide_eq_false c5
      clear c5
      obtain rfl := Option.some.inj H
      go_wp2
      go_ret
      exact ⟨by first | rfl | (simp; done) | (simp [*]; done), by repeat (first | exact Drawn0.refl _ | apply Drawn0.step)⟩
  ·rw [if_neg c3] at H
   exact absurd H (by simp)
def galoisref01_Compare.j0 : Nat → ByteArray → ByteArray → Bool → Option (Int)
 | 0, _, _, _ => none
 | k + 1, x0, x1, x5 => if x5 = true then (some (-1)) else (if x0.toList = x1.toList then (some 0) else (some 1))
def galoisref01_Compare.f (k : Nat) (a0 : ByteArray) (a1 : ByteArray) : Option (Int) := if (a0.size : Int) < (a1.size : Int) then (galoisref01_Compare.j0 k a0 a1 true) else (if (a0.size : Int) = (a1.size : Int) then (galoisref01_Compare.j0 k a0 a1 (Op.bytesLess a0.toList a1.toList)) else (galoisref01_Compare.j0 k a0 a1 false))
theorem galoisref01_Compare.U1 {g : Prop} (h : g := by
 repeat' first
 | (with_reducible exact ih0 _ _ _)
 | (with_reducible exact LeO.refl _)
 | (with_reducible exact LeO.none _)
 | (with_reducible refine LeO.ite ?_ ?_)
 | (with_reducible refine LeO.bind ?_ (fun _ => ?_))) : g := h
theorem galoisref01_Compare.mono_l : ∀ k, (∀ y0 y1 y2, LeO (galoisref01_Compare.j0 k y0 y1 y2) (galoisref01_Compare.j0 (k + 1) y0 y1 y2))
 | 0 => fun _ _ _ r h => by simp [galoisref01_Compare.j0] at h
 | k + 1 => by
  have ih0 := galoisref01_Compare.mono_l k
  ·intro y0 y1 y2
   unfold galoisref01_Compare.j0
   exact galoisref01_Compare.U1
theorem galoisref01_Compare.mono : ∀ a0 a1 k, LeO (galoisref01_Compare.f k a0 a1) (galoisref01_Compare.f (k + 1) a0 a1) := by
 intro a0 a1 k
 have ih0 := galoisref01_Compare.mono_l k
 unfold galoisref01_Compare.f
 exact galoisref01_Compare.U1
theorem galoisref01_Compare.M1 {g : Prop} (h : g := by
 have H' := Aside0.mk H
 clear H
 go_wp2
 go_meet
 case rel => exact ⟨_, _, ZS, H', ⟨ZN⟩, by repeat (first | exact Drawn0.refl _ | apply Drawn0.step)⟩) : g := h
theorem galoisref01_Compare.M2 {g : Prop} (h : g := by
 go_wp2
 go_ret
 exact ⟨by first | rfl | (simp; done) | (simp [*]; done), by repeat (first | exact Drawn0.refl _ | apply Drawn0.step)⟩) : g := h
set_option maxHeartbeats 8000000 in
set_option maxRecDepth 100000 in
theorem galoisref01_Compare.calls (k : Nat) (a0 : ByteArray) (a1 : ByteArray) (r : Int) (w : World) (h : galoisref01_Compare.f k a0 a1 = some r) :
  Calls Try.prog 39 #[.string a0, .string a1] w fun e w' => e = .returned (.int .i64 r) ∧ Drawn0 w w' := by
 have H := h
 unfold galoisref01_Compare.f at H
 clear h
 have HC3 := Aside0.mk H
 clear H
 go_enter Try.func39, Try.ntmps39
 go_upto_region 1 with (fail)
 go_cut [5] (fun v5 wc => ∃ (kq : Nat) (x5_2 : Bool), v5 = .bool x5_2 ∧ Aside0 (galoisref01_Compare.j0 kq a0 a1 x5_2 = some r) ∧ Aside0 (kq ≤ k) ∧ Drawn0 w wc)
 case first =>
  have H := HC3.out
  clear HC3
  by_cases c4 : (a0.size : Int) < (a1.size : Int)
  ·rw [if_pos c4] at H
   have c4b0 : decide ((a0.size : Int) < (a1.size : Int)) = true := decide_eq_true c4
   have c4b1 : decide (a0.size < a1.size) = true := decide_eq_true (Int.ofNat_lt.mp c4)
   clear c4
   (first | rw [c4b0] | rw [c4b1] | (simp only [i64_w, i32_w]; rw [c4b0]) | skip)
   exact galoisref01_Compare.M1
  ·rw [if_neg c4] at H
   have c4b0 : decide ((a0.size : Int) < (a1.size : Int)) = false := decide_eq_false c4
   have c4b1 : decide (a0.size < a1.size) = false := decide_eq_false (fun h => c4 (Int.ofNat_lt.mpr h))
   clear c4
   (first | rw [c4b0] | rw [c4b1] | (simp only [i64_w, i32_w]; rw [c4b0]) | skip)
   by_cases c5 : (a0.size : Int) = (a1.size : Int)
   ·rw [if_pos c5] at H
    have c5b0 : ((a0.size : Int) == (a1.size : Int)) = true := beq_iff_eq.mpr c5
    have c5b1 : ((a0.size : Int) != (a1.size : Int)) = false := bne_eq_false_iff_eq.mpr c5
    have c5b2 : (a0.size == a1.size) = true := by first | simpa using c5 | (simp at c5 ⊢; omega)
    clear c5
    exact galoisref01_Compare.M1
   ·rw [if_neg c5] at H
    have c5b0 : ((a0.size : Int) == (a1.size : Int)) = false := beq_eq_false_iff_ne.mpr c5
    have c5b1 : ((a0.size : Int) != (a1.size : Int)) = true := bne_iff_ne.mpr c5
    have c5b2 : (a0.size == a1.size) = false := by first | simpa using c5 | (simp at c5 ⊢; omega)
    exact galoisref01_Compare.M1
 case rest =>
  clear HC3
  obtain ⟨kq, x5_2, rfl, HA, HJ2, ⟨mc2, rfl⟩⟩ := hcut
  cases kq with
  | zero => exact absurd HA.out (by simp [galoisref01_Compare.j0])
  | succ kj2 =>
   have H := HA.out
   clear HA
   simp only [galoisref01_Compare.j0] at H
   by_cases c6 : x5_2 = true
   ·subst c6
    rw [if_pos rfl] at H
    obtain rfl := Option.some.inj H
    exact galoisref01_Compare.M2
   ·replace c6 := Bool.eq_false_iff.mpr c6
    subst c6
    rw [if_neg Bool.false_ne_true] at H
    by_cases c7 : a0.toList = a1.toList
    ·rw [if_pos c7] at H
     have c7b0 : (a0.toList == a1.toList) = true := beq_iff_eq.mpr c7
     have c7b1 : (a0.toList != a1.toList) = false := bne_eq_false_iff_eq.mpr c7
     clear c7
     obtain rfl := Option.some.inj H
     exact galoisref01_Compare.M2
    ·rw [if_neg c7] at H
     have c7b0 : (a0.toList == a1.toList) = false := beq_eq_false_iff_ne.mpr c7
     have c7b1 : (a0.toList != a1.toList) = true := bne_iff_ne.mpr c7
     obtain rfl := Option.some.inj H
     go_wp2
     go_ret
     exact ⟨by first | rfl | (simp; done) | (simp [*]; done), by repeat (first | exact Drawn0.refl _ | apply Drawn0.step)⟩
end Go.Proofs.Ytohkmnbnjacfaaa.All
namespace Go.Proofs.Ytohkmnbnjacfaaa.All
open Go.Proofs.YtohkmnbnjacfaaaX
open Go.RowKit Go.Proofs.YtohkmnbnjacfaaaW.PrintWords Go.Proofs.YtohkmnbnjacfaaaW.PrintLast Go.Proofs.YtohkmnbnjacfaaaW.PrintMore
attribute [local go_sem] max2_int min2_int max_two min_two max_three min_three max_four min_four
set_option linter.unusedVariables false
set_option linter.unusedSimpArgs false
mutual
def galoisref01_Add.l0 : Nat → List Int → List Int → List Int → Int → Int → Option (ByteArray)
 | 0, _, _, _, _, _ => none
 | k + 1, x5, x6, x7, x8, x9 => if x9 < (x5.length : Int) then (galoisref01_Add.j1 k x5 x6 x7 x8 x9 true) else (if x9 < (x6.length : Int) then (galoisref01_Add.j1 k x5 x6 x7 x8 x9 true) else (galoisref01_Add.j1 k x5 x6 x7 x8 x9 (decide (x8 > 0))))
def galoisref01_Add.j1 : Nat → List Int → List Int → List Int → Int → Int → Bool → Option (ByteArray)
 | 0, _, _, _, _, _, _ => none
 | k + 1, x5, x6, x7, x8, x9, x28 => if x28 = true then (if x9 < (x5.length : Int) then (if 0 ≤ x9 then (if x9 < (x6.length : Int) then (if x7.length < 17592186044416 then (galoisref01_Add.l0 k x5 x6 (x7 ++ [Go.bits .and .u64 (IntKind.u64.wrap ((IntKind.u64.wrap (x8 + (rd x5 x9))) + (rd x6 x9))) 4294967295]) ((IntKind.u64.wrap ((IntKind.u64.wrap (x8 + (rd x5 x9))) + (rd x6 x9))) / 4294967296) (wrap64 (x9 + 1))) else (none)) else (if x7.length < 17592186044416 then (galoisref01_Add.l0 k x5 x6 (x7 ++ [Go.bits .and .u64 (IntKind.u64.wrap (x8 + (rd x5 x9))) 4294967295]) ((IntKind.u64.wrap (x8 + (rd x5 x9))) / 4294967296) (wrap64 (x9 + 1))) else (none))) else (none)) else (if x9 < (x6.length : Int) then (if 0 ≤ x9 then (if x7.length < 17592186044416 then (galoisref01_Add.l0 k x5 x6 (x7 ++ [Go.bits .and .u64 (IntKind.u64.wrap (x8 + (rd x6 x9))) 4294967295]) ((IntKind.u64.wrap (x8 + (rd x6 x9))) / 4294967296) (wrap64 (x9 + 1))) else (none)) else (none)) else (if x7.length < 17592186044416 then (galoisref01_Add.l0 k x5 x6 (x7 ++ [Go.bits .and .u64 x8 4294967295]) (x8 / 4294967296) (wrap64 (x9 + 1))) else (none)))) else ((galoisref01_pack.f k x7).bind fun t511 => (some t511))
end
def galoisref01_Add.f (k : Nat) (a0 : ByteArray) (a1 : ByteArray) : Option (ByteArray) := (galoisref01_limbs.f k a0).bind fun t505 => ((galoisref01_limbs.f k a1).bind fun t508 => (galoisref01_Add.l0 k t505 t508 ([] : List Int) 0 0))
theorem galoisref01_Add.U1 {g : Prop} (h : g := by
 repeat' first
 | (with_reducible exact ih0 _ _ _ _ _)
 | (with_reducible exact ih1 _ _ _ _ _ _)
 | (with_reducible exact galoisref01_limbs.mono _ _)
 | (with_reducible exact galoisref01_pack.mono _ _)
 | (with_reducible exact LeO.refl _)
 | (with_reducible exact LeO.none _)
 | (with_reducible refine LeO.ite ?_ ?_)
 | (with_reducible refine LeO.bind ?_ (fun _ => ?_))) : g := h
theorem galoisref01_Add.mono_l : ∀ k, (∀ y0 y1 y2 y3 y4, LeO (galoisref01_Add.l0 k y0 y1 y2 y3 y4) (galoisref01_Add.l0 (k + 1) y0 y1 y2 y3 y4)) ∧ (∀ y0 y1 y2 y3 y4 y5, LeO (galoisref01_Add.j1 k y0 y1 y2 y3 y4 y5) (galoisref01_Add.j1 (k + 1) y0 y1 y2 y3 y4 y5))
 | 0 => ⟨fun _ _ _ _ _ r h => by simp [galoisref01_Add.l0] at h, fun _ _ _ _ _ _ r h => by simp [galoisref01_Add.j1] at h⟩
 | k + 1 => by
  obtain ⟨ih0, ih1⟩ := galoisref01_Add.mono_l k
  refine ⟨?_, ?_⟩
  ·intro y0 y1 y2 y3 y4
   unfold galoisref01_Add.l0
   exact galoisref01_Add.U1
  ·intro y0 y1 y2 y3 y4 y5
   unfold galoisref01_Add.j1
   exact galoisref01_Add.U1
theorem galoisref01_Add.mono : ∀ a0 a1 k, LeO (galoisref01_Add.f k a0 a1) (galoisref01_Add.f (k + 1) a0 a1) := by
 intro a0 a1 k
 obtain ⟨ih0, ih1⟩ := galoisref01_Add.mono_l k
 unfold galoisref01_Add.f
 exact galoisref01_Add.U1
theorem galoisref01_Add.M1 {g : Prop} (h : g := by
 go_wp2
 go_meet
 case rel => exact ⟨_, _, ZS, H', ⟨by have := HK1.out; first | omega | exact Nat.le_refl _⟩, ⟨by (with_reducible repeat (first | apply Kd.R_alloc | apply Kd.R_drewN | apply Kd.R_drew)); exact HO_5.out⟩, ⟨by (with_reducible repeat (first | apply Kd.R_alloc | apply Kd.R_drewN | apply Kd.R_drew)); exact HO_6.out⟩, ⟨by (with_reducible repeat (first | apply Kd.R_alloc | apply Kd.R_drewN | apply Kd.R_drew)); exact HO_7.out⟩, ⟨ZB⟩⟩) : g := h
set_option maxHeartbeats 8000000 in
set_option maxRecDepth 100000 in
theorem galoisref01_Add.calls (k : Nat) (a0 : ByteArray) (a1 : ByteArray) (r : ByteArray) (w : World) (h : galoisref01_Add.f k a0 a1 = some r) :
  Calls Try.prog 40 #[.string a0, .string a1] w fun e w' => e = .returned (.string r) ∧ Below w.heap.size w w' := by
 have HB := Aside0.mk (Below.refl w.heap.size w)
 have H := h
 unfold galoisref01_Add.f at H
 clear h
 obtain ⟨t505, A3, H⟩ := ZO H
 obtain ⟨t508, A4, H⟩ := ZO H
 have H' := Aside0.mk H
 clear H
 go_enter Try.func40, Try.ntmps40
 go_wp2_with (first | ((with_reducible refine gate_callee (f := 51) rfl ?_); refine goesL_ (some 12) rfl rfl Try.func51 (by kernel_rfl) rfl #[.string a0] rfl ZA ?_; (with_reducible refine (galoisref01_limbs.calls k a0 t505 _ A3.out).mono ?_); rintro e w5 ⟨v506, rfl, ho0, hb⟩; refine ⟨_, rfl, ?_⟩; have HO507 := Aside0.mk (Kd.R_lower ho0 (below_size ZB)); replace HB := Aside0.mk (below_step ZB hb); (try clear hb); (try clear ho0)) | ((with_reducible refine gate_callee (f := 51) rfl ?_); refine goesL_ (some 14) rfl rfl Try.func51 (by kernel_rfl) rfl #[.string a1] rfl ZA ?_; (with_reducible refine (galoisref01_limbs.calls k a1 t508 _ A4.out).mono ?_); rintro e w6 ⟨v509, rfl, ho0, hb⟩; refine ⟨_, rfl, ?_⟩; have HO510 := Aside0.mk (Kd.R_lower (Kd.R_new' ho0 (Kd.R_lt (ZR HO507.out))) (below_size ZB)); replace HO507 := Aside0.mk (Kd.R_elder' (ZR HO507.out) (Kd.R_base ho0) hb); replace HB := Aside0.mk (below_step ZB hb); (try clear hb); (try clear ho0)))
 go_loopg [7, 8, 9] k (fun kq v7 v8 v9 w' => ∃ (x7_1 : List Int) (x8_1 : Int) (x9_1 : Int), v8 = .int .u64 x8_1 ∧ v9 = .int .i64 x9_1 ∧ Aside0 (galoisref01_Add.l0 kq t505 t508 x7_1 x8_1 x9_1 = some r) ∧ Aside0 (kq ≤ k) ∧ Aside0 (Kd.R (Kd.int .u64) 49 w' w.heap.size (fun k_ => some k_ ≠ (v509 : Value).ownBlock ∧ some k_ ≠ (v7 : Value).ownBlock) v506 t505) ∧ Aside0 (Kd.R (Kd.int .u64) 49 w' w.heap.size (fun k_ => some k_ ≠ (v506 : Value).ownBlock ∧ some k_ ≠ (v7 : Value).ownBlock) v509 t508) ∧ Aside0 (Kd.R (Kd.int .u64) 49 w' w.heap.size (fun k_ => some k_ ≠ (v506 : Value).ownBlock ∧ some k_ ≠ (v509 : Value).ownBlock) v7 x7_1) ∧ Aside0 (Below w.heap.size w w'))
 case atStart => exact ⟨(([] : List Int)), (0), (0), ZS, ZS, H', ⟨Nat.le_refl _⟩, ⟨by (with_reducible repeat (first | apply Kd.R_alloc | apply Kd.R_drewN | apply Kd.R_drew)); exact Kd.R_mono HO507.out (fun _ hk => ⟨hk.2, (by simp [Value.ownBlock])⟩)⟩, ⟨by (with_reducible repeat (first | apply Kd.R_alloc | apply Kd.R_drewN | apply Kd.R_drew)); exact Kd.R_mono HO510.out (fun _ hk => ⟨hk.2, (by simp [Value.ownBlock])⟩)⟩, ⟨by first | exact Kd.R_nil _ _ _ _ _ | exact Kd.N_nil _ _ _ _ _ | exact Kd.V_nil _ _ _ _ _ | exact Kd.Q_nil _ _ _ _ _ | exact Kd.S_nil _ _ _ _ _⟩, ⟨ZB⟩⟩
 case round =>
  clear H'
  obtain ⟨x7_1, x8_1, x9_1, rfl, rfl, HA, HK1, HO_5, HO_6, HO_7, HB⟩ := hrel
  cases gk with
  | zero => exact absurd HA.out (by simp [galoisref01_Add.l0])
  | succ k1 =>
   have H := HA.out
   clear HA
   simp only [galoisref01_Add.l0] at H
   have HC7 := Aside0.mk H
   clear H
   go_upto_region 5 with (fail)
   go_cut [28] (fun v28 wc => ∃ (kq : Nat) (x28_6 : Bool), v28 = .bool x28_6 ∧ Aside0 (galoisref01_Add.j1 kq t505 t508 x7_1 x8_1 x9_1 x28_6 = some r) ∧ Aside0 (kq ≤ k1) ∧ Aside0 (Kd.R (Kd.int .u64) 49 wc w.heap.size (fun k_ => some k_ ≠ (v509 : Value).ownBlock ∧ some k_ ≠ (u7 : Value).ownBlock) v506 t505) ∧ Aside0 (Kd.R (Kd.int .u64) 49 wc w.heap.size (fun k_ => some k_ ≠ (v506 : Value).ownBlock ∧ some k_ ≠ (u7 : Value).ownBlock) v509 t508) ∧ Aside0 (Kd.R (Kd.int .u64) 49 wc w.heap.size (fun k_ => some k_ ≠ (v506 : Value).ownBlock ∧ some k_ ≠ (v509 : Value).ownBlock) u7 x7_1) ∧ Aside0 (Below w.heap.size w wc))
   case first =>
    have H := HC7.out
    clear HC7
    by_cases c8 : x9_1 < (t505.length : Int)
    ·rw [if_pos c8] at H
     have c8b0 : decide (x9_1 < (t505.length : Int)) = true := decide_eq_true c8
     clear c8
     (first | rw [c8b0] | rw [c8b1] | (simp only [i64_w, i32_w]; rw [c8b0]) | skip)
     have H' := Aside0.mk H
     clear H
     obtain ⟨Ao9, co9, eo9⟩ := Kd.R_slice HO_5.out
     subst eo9
     exact galoisref01_Add.M1
    ·rw [if_neg c8] at H
     have c8b0 : decide (x9_1 < (t505.length : Int)) = false := decide_eq_false c8
     clear c8
     (first | rw [c8b0] | rw [c8b1] | (simp only [i64_w, i32_w]; rw [c8b0]) | skip)
     by_cases c10 : x9_1 < (t508.length : Int)
     ·rw [if_pos c10] at H
      have c10b0 : decide (x9_1 < (t508.length : Int)) = true := decide_eq_true c10
      clear c10
      have H' := Aside0.mk H
      clear H
      obtain ⟨Ao11, co11, eo11⟩ := Kd.R_slice HO_5.out
      subst eo11
      obtain ⟨Ao12, co12, eo12⟩ := Kd.R_slice HO_6.out
      subst eo12
      exact galoisref01_Add.M1
     ·rw [if_neg c10] at H
      have c10b0 : decide (x9_1 < (t508.length : Int)) = false := decide_eq_false c10
      clear c10
      have H' := Aside0.mk H
      clear H
      obtain ⟨Ao13, co13, eo13⟩ := Kd.R_slice HO_5.out
      subst eo13
      obtain ⟨Ao14, co14, eo14⟩ := Kd.R_slice HO_6.out
      subst eo14
      exact galoisref01_Add.M1
   case rest =>
    clear HC7
    obtain ⟨kq, x28_6, rfl, HA, HJ6, HO_5, HO_6, HO_7, HB⟩ := hcut
    cases kq with
    | zero => exact absurd HA.out (by simp [galoisref01_Add.j1])
    | succ kj6 =>
     have H := HA.out
     clear HA
     simp only [galoisref01_Add.j1] at H
     by_cases c15 : x28_6 = true
     ·subst c15
      rw [if_pos rfl] at H
      by_cases c16 : x9_1 < (t505.length : Int)
      ·rw [if_pos c16] at H
       have c16b0 : decide (x9_1 < (t505.length : Int)) = true := decide_eq_true c16
       clear c16
       obtain ⟨c17, H⟩ := ZI H
       have c17b0 : decide (0 ≤ x9_1) = true := decide_eq_true c17
       clear c17
       by_cases c18 : x9_1 < (t508.length : Int)
       ·rw [if_pos c18] at H
        have c18b0 : decide (x9_1 < (t508.length : Int)) = true := decide_eq_true c18
        clear c18
        obtain ⟨c19, H⟩ := ZI H
        have LMc19 := Aside0.mk c19
        clear c19
        obtain ⟨y514, hy514⟩ : ∃ y_ : List Int, y_ = (x7_1 ++ [Go.bits .and .u64 (IntKind.u64.wrap ((IntKind.u64.wrap (x8_1 + (rd t505 x9_1))) + (rd t508 x9_1))) 4294967295]) := ⟨_, rfl⟩
        replace H : (galoisref01_Add.l0 kj6 t505 t508 y514 ((IntKind.u64.wrap ((IntKind.u64.wrap (x8_1 + (rd t505 x9_1))) + (rd t508 x9_1))) / 4294967296) (wrap64 (x9_1 + 1))) = some r := ZH hy514 H
        have Ny514 := Aside0.mk hy514
        clear hy514
        have H' := Aside0.mk H
        clear H
        obtain ⟨Ao20, co20, eo20⟩ := Kd.R_slice HO_5.out
        subst eo20
        have p512 : 0 ≤ (x9_1 : Int) := of_decide_eq_true ZD
        have q512 : x9_1 < (t505.length : Int) := of_decide_eq_true ZD
        obtain ⟨ad512, e512, hx512_0⟩ := Kd.at_int (Kd.R_reads' HO_5.out).2.2 x9_1 p512 q512
        cases e512
        replace p512 := eq_true p512
        replace q512 := eq_true q512
        obtain ⟨Ao21, co21, eo21⟩ := Kd.R_slice HO_6.out
        subst eo21
        have p513 : 0 ≤ (x9_1 : Int) := of_decide_eq_true ZD
        have q513 : x9_1 < (t508.length : Int) := of_decide_eq_true ZD
        obtain ⟨ad513, e513, hx513_0⟩ := Kd.at_int (Kd.R_reads' HO_6.out).2.2 x9_1 p513 q513
        cases e513
        replace p513 := eq_true p513
        replace q513 := eq_true q513
        go_wp2_with (first | ((with_reducible refine gate_builtin (b := .append) (xs := #[.tmp 52, .tmp 55]) rfl ?_); (try (refine gate_guard (by rfl) ?_; dsimp only)); at_builtin; refine Kd.R_append (Kd.int .u64) (w0 := w) w.heap.size rfl (.tmp 52) (.tmp 55) 68 49 (.int .u64 0) 8 rfl Try.underlying68 info49 rfl (by decide) (by omega) u7 x7_1 (Go.bits .and .u64 (IntKind.u64.wrap ((IntKind.u64.wrap (x8_1 + (rd t505 x9_1))) + (rd t508 x9_1))) 4294967295) [.int .u64 (Go.bits .and .u64 (IntKind.u64.wrap ((IntKind.u64.wrap (x8_1 + (rd t505 x9_1))) + (rd t508 x9_1))) 4294967295)] (fun k_ => some k_ ≠ (.slice (some ad512) t505.length co20 : Value).ownBlock ∧ some k_ ≠ (.slice (some ad513) t508.length co21 : Value).ownBlock) (fun _ => False) rfl rfl ?aP (fun _ hk => hk.elim) ?aF ?aO ?aB ?aS ?aL ?_; (case aP => exact rfl); (case aB => exact ZB); (case aF => exact (fun k_ hk => ⟨Kd.fresh' (Kd.R_lt (ZR HO_5.out)) k_ hk, Kd.fresh' (Kd.R_lt (ZR HO_6.out)) k_ hk⟩)); (case aO => exact (ZR HO_7.out)); (case aS => exact (below_size ZB)); (case aL => have := LMc19.out; omega); intro v515 w22 ho hb hg hat; rw [← Ny514.out] at ho; replace HO_5 := Aside0.mk (Kd.R_after (ok := (fun k_ => some k_ ≠ (.slice (some ad513) t508.length co21 : Value).ownBlock)) (ZR HO_5.out) hg hat); replace HO_6 := Aside0.mk (Kd.R_after (ok := (fun k_ => some k_ ≠ (.slice (some ad512) t505.length co20 : Value).ownBlock)) (ZR HO_6.out) hg hat); replace HB := Aside0.mk (hb); have HO516 := Aside0.mk (ho); clear HO_7; clear ho hb hg hat))
        go_roundg kj6
        case measure => have := HK1.out; have := HJ6.out; omega
        case rel => exact ⟨(y514), ((IntKind.u64.wrap ((IntKind.u64.wrap (x8_1 + (rd t505 x9_1))) + (rd t508 x9_1))) / 4294967296), (wrap64 (x9_1 + 1)), ZS, ZS, H', ⟨by have := HK1.out; have := HJ6.out; omega⟩, ⟨by (with_reducible repeat (first | apply Kd.R_alloc | apply Kd.R_drewN | apply Kd.R_drew)); exact HO_5.out⟩, ⟨by (with_reducible repeat (first | apply Kd.R_alloc | apply Kd.R_drewN | apply Kd.R_drew)); exact HO_6.out⟩, ⟨by (with_reducible repeat (first | apply Kd.R_alloc | apply Kd.R_drewN | apply Kd.R_drew)); exact HO516.out⟩, ⟨ZB⟩⟩
       ·rw [if_neg c18] at H
        have c18b0 : decide (x9_1 < (t508.length : Int)) = false := decide_eq_false c18
        clear c18
        obtain ⟨c23, H⟩ := ZI H
        have LMc23 := Aside0.mk c23
        clear c23
        obtain ⟨y517, hy517⟩ : ∃ y_ : List Int, y_ = (x7_1 ++ [Go.bits .and .u64 (IntKind.u64.wrap (x8_1 + (rd t505 x9_1))) 4294967295]) := ⟨_, rfl⟩
        replace H : (galoisref01_Add.l0 kj6 t505 t508 y517 ((IntKind.u64.wrap (x8_1 + (rd t505 x9_1))) / 4294967296) (wrap64 (x9_1 + 1))) = some r := ZH hy517 H
        have Ny517 := Aside0.mk hy517
        clear hy517
        have H' := Aside0.mk H
        clear H
        obtain ⟨Ao24, co24, eo24⟩ := Kd.R_slice HO_5.out
        subst eo24
        have p512 : 0 ≤ (x9_1 : Int) := of_decide_eq_true ZD
        have q512 : x9_1 < (t505.length : Int) := of_decide_eq_true ZD
        obtain ⟨ad512, e512, hx512_0⟩ := Kd.at_int (Kd.R_reads' HO_5.out).2.2 x9_1 p512 q512
        cases e512
        replace p512 := eq_true p512
        replace q512 := eq_true q512
        obtain ⟨Ao25, co25, eo25⟩ := Kd.R_slice HO_6.out
        subst eo25
        go_wp2_with (first | ((with_reducible refine gate_builtin (b := .append) (xs := #[.tmp 52, .tmp 55]) rfl ?_); (try (refine gate_guard (by rfl) ?_; dsimp only)); at_builtin; refine Kd.R_append (Kd.int .u64) (w0 := w) w.heap.size rfl (.tmp 52) (.tmp 55) 68 49 (.int .u64 0) 8 rfl Try.underlying68 info49 rfl (by decide) (by omega) u7 x7_1 (Go.bits .and .u64 (IntKind.u64.wrap (x8_1 + (rd t505 x9_1))) 4294967295) [.int .u64 (Go.bits .and .u64 (IntKind.u64.wrap (x8_1 + (rd t505 x9_1))) 4294967295)] (fun k_ => some k_ ≠ (.slice (some ad512) t505.length co24 : Value).ownBlock ∧ some k_ ≠ (.slice Ao25 t508.length co25 : Value).ownBlock) (fun _ => False) rfl rfl ?aP (fun _ hk => hk.elim) ?aF ?aO ?aB ?aS ?aL ?_; (case aP => exact rfl); (case aB => exact ZB); (case aF => exact (fun k_ hk => ⟨Kd.fresh' (Kd.R_lt (ZR HO_5.out)) k_ hk, Kd.fresh' (Kd.R_lt (ZR HO_6.out)) k_ hk⟩)); (case aO => exact (ZR HO_7.out)); (case aS => exact (below_size ZB)); (case aL => have := LMc23.out; omega); intro v518 w26 ho hb hg hat; rw [← Ny517.out] at ho; replace HO_5 := Aside0.mk (Kd.R_after (ok := (fun k_ => some k_ ≠ (.slice Ao25 t508.length co25 : Value).ownBlock)) (ZR HO_5.out) hg hat); replace HO_6 := Aside0.mk (Kd.R_after (ok := (fun k_ => some k_ ≠ (.slice (some ad512) t505.length co24 : Value).ownBlock)) (ZR HO_6.out) hg hat); replace HB := Aside0.mk (hb); have HO519 := Aside0.mk (ho); clear HO_7; clear ho hb hg hat))
        go_roundg kj6
        case measure => have := HK1.out; have := HJ6.out; omega
        case rel => exact ⟨(y517), ((IntKind.u64.wrap (x8_1 + (rd t505 x9_1))) / 4294967296), (wrap64 (x9_1 + 1)), ZS, ZS, H', ⟨by have := HK1.out; have := HJ6.out; omega⟩, ⟨by (with_reducible repeat (first | apply Kd.R_alloc | apply Kd.R_drewN | apply Kd.R_drew)); exact HO_5.out⟩, ⟨by (with_reducible repeat (first | apply Kd.R_alloc | apply Kd.R_drewN | apply Kd.R_drew)); exact HO_6.out⟩, ⟨by (with_reducible repeat (first | apply Kd.R_alloc | apply Kd.R_drewN | apply Kd.R_drew)); exact HO519.out⟩, ⟨ZB⟩⟩
      ·rw [if_neg c16] at H
       have c16b0 : decide (x9_1 < (t505.length : Int)) = false := decide_eq_false c16
       clear c16
       by_cases c27 : x9_1 < (t508.length : Int)
       ·rw [if_pos c27] at H
        have c27b0 : decide (x9_1 < (t508.length : Int)) = true := decide_eq_true c27
        clear c27
        obtain ⟨c28, H⟩ := ZI H
        have c28b0 : decide (0 ≤ x9_1) = true := decide_eq_true c28
        clear c28
        obtain ⟨c29, H⟩ := ZI H
        have LMc29 := Aside0.mk c29
        clear c29
        obtain ⟨y521, hy521⟩ : ∃ y_ : List Int, y_ = (x7_1 ++ [Go.bits .and .u64 (IntKind.u64.wrap (x8_1 + (rd t508 x9_1))) 4294967295]) := ⟨_, rfl⟩
        replace H : (galoisref01_Add.l0 kj6 t505 t508 y521 ((IntKind.u64.wrap (x8_1 + (rd t508 x9_1))) / 4294967296) (wrap64 (x9_1 + 1))) = some r := ZH hy521 H
        have Ny521 := Aside0.mk hy521
        clear hy521
        have H' := Aside0.mk H
        clear H
        obtain ⟨Ao30, co30, eo30⟩ := Kd.R_slice HO_5.out
        subst eo30
        obtain ⟨Ao31, co31, eo31⟩ := Kd.R_slice HO_6.out
        subst eo31
        have p520 : 0 ≤ (x9_1 : Int) := of_decide_eq_true ZD
        have q520 : x9_1 < (t508.length : Int) := of_decide_eq_true ZD
        obtain ⟨ad520, e520, hx520_0⟩ := Kd.at_int (Kd.R_reads' HO_6.out).2.2 x9_1 p520 q520
        cases e520
        replace p520 := eq_true p520
        replace q520 := eq_true q520
        go_wp2_with (first | ((with_reducible refine gate_builtin (b := .append) (xs := #[.tmp 52, .tmp 55]) rfl ?_); (try (refine gate_guard (by rfl) ?_; dsimp only)); at_builtin; refine Kd.R_append (Kd.int .u64) (w0 := w) w.heap.size rfl (.tmp 52) (.tmp 55) 68 49 (.int .u64 0) 8 rfl Try.underlying68 info49 rfl (by decide) (by omega) u7 x7_1 (Go.bits .and .u64 (IntKind.u64.wrap (x8_1 + (rd t508 x9_1))) 4294967295) [.int .u64 (Go.bits .and .u64 (IntKind.u64.wrap (x8_1 + (rd t508 x9_1))) 4294967295)] (fun k_ => some k_ ≠ (.slice Ao30 t505.length co30 : Value).ownBlock ∧ some k_ ≠ (.slice (some ad520) t508.length co31 : Value).ownBlock) (fun _ => False) rfl rfl ?aP (fun _ hk => hk.elim) ?aF ?aO ?aB ?aS ?aL ?_; (case aP => exact rfl); (case aB => exact ZB); (case aF => exact (fun k_ hk => ⟨Kd.fresh' (Kd.R_lt (ZR HO_5.out)) k_ hk, Kd.fresh' (Kd.R_lt (ZR HO_6.out)) k_ hk⟩)); (case aO => exact (ZR HO_7.out)); (case aS => exact (below_size ZB)); (case aL => have := LMc29.out; omega); intro v522 w32 ho hb hg hat; rw [← Ny521.out] at ho; replace HO_5 := Aside0.mk (Kd.R_after (ok := (fun k_ => some k_ ≠ (.slice (some ad520) t508.length co31 : Value).ownBlock)) (ZR HO_5.out) hg hat); replace HO_6 := Aside0.mk (Kd.R_after (ok := (fun k_ => some k_ ≠ (.slice Ao30 t505.length co30 : Value).ownBlock)) (ZR HO_6.out) hg hat); replace HB := Aside0.mk (hb); have HO523 := Aside0.mk (ho); clear HO_7; clear ho hb hg hat))
        go_roundg kj6
        case measure => have := HK1.out; have := HJ6.out; omega
        case rel => exact ⟨(y521), ((IntKind.u64.wrap (x8_1 + (rd t508 x9_1))) / 4294967296), (wrap64 (x9_1 + 1)), ZS, ZS, H', ⟨by have := HK1.out; have := HJ6.out; omega⟩, ⟨by (with_reducible repeat (first | apply Kd.R_alloc | apply Kd.R_drewN | apply Kd.R_drew)); exact HO_5.out⟩, ⟨by (with_reducible repeat (first | apply Kd.R_alloc | apply Kd.R_drewN | apply Kd.R_drew)); exact HO_6.out⟩, ⟨by (with_reducible repeat (first | apply Kd.R_alloc | apply Kd.R_drewN | apply Kd.R_drew)); exact HO523.out⟩, ⟨ZB⟩⟩
       ·rw [if_neg c27] at H
        have c27b0 : decide (x9_1 < (t508.length : Int)) = false := decide_eq_false c27
        clear c27
        obtain ⟨c33, H⟩ := ZI H
        have LMc33 := Aside0.mk c33
        clear c33
        obtain ⟨y524, hy524⟩ : ∃ y_ : List Int, y_ = (x7_1 ++ [Go.bits .and .u64 x8_1 4294967295]) := ⟨_, rfl⟩
        replace H : (galoisref01_Add.l0 kj6 t505 t508 y524 (x8_1 / 4294967296) (wrap64 (x9_1 + 1))) = some r := ZH hy524 H
        have Ny524 := Aside0.mk hy524
        clear hy524
        have H' := Aside0.mk H
        clear H
        obtain ⟨Ao34, co34, eo34⟩ := Kd.R_slice HO_5.out
        subst eo34
        obtain ⟨Ao35, co35, eo35⟩ := Kd.R_slice HO_6.out
        subst eo35
        go_wp2_with (first | ((with_reducible refine gate_builtin (b := .append) (xs := #[.tmp 52, .tmp 55]) rfl ?_); (try (refine gate_guard (by rfl) ?_; dsimp only)); at_builtin; refine Kd.R_append (Kd.int .u64) (w0 := w) w.heap.size rfl (.tmp 52) (.tmp 55) 68 49 (.int .u64 0) 8 rfl Try.underlying68 info49 rfl (by decide) (by omega) u7 x7_1 (Go.bits .and .u64 x8_1 4294967295) [.int .u64 (Go.bits .and .u64 x8_1 4294967295)] (fun k_ => some k_ ≠ (.slice Ao34 t505.length co34 : Value).ownBlock ∧ some k_ ≠ (.slice Ao35 t508.length co35 : Value).ownBlock) (fun _ => False) rfl rfl ?aP (fun _ hk => hk.elim) ?aF ?aO ?aB ?aS ?aL ?_; (case aP => exact rfl); (case aB => exact ZB); (case aF => exact (fun k_ hk => ⟨Kd.fresh' (Kd.R_lt (ZR HO_5.out)) k_ hk, Kd.fresh' (Kd.R_lt (ZR HO_6.out)) k_ hk⟩)); (case aO => exact (ZR HO_7.out)); (case aS => exact (below_size ZB)); (case aL => have := LMc33.out; omega); intro v525 w36 ho hb hg hat; rw [← Ny524.out] at ho; replace HO_5 := Aside0.mk (Kd.R_after (ok := (fun k_ => some k_ ≠ (.slice Ao35 t508.length co35 : Value).ownBlock)) (ZR HO_5.out) hg hat); replace HO_6 := Aside0.mk (Kd.R_after (ok := (fun k_ => some k_ ≠ (.slice Ao34 t505.length co34 : Value).ownBlock)) (ZR HO_6.out) hg hat); replace HB := Aside0.mk (hb); have HO526 := Aside0.mk (ho); clear HO_7; clear ho hb hg hat))
        go_roundg kj6
        case measure => have := HK1.out; have := HJ6.out; omega
        case rel => exact ⟨(y524), (x8_1 / 4294967296), (wrap64 (x9_1 + 1)), ZS, ZS, H', ⟨by have := HK1.out; have := HJ6.out; omega⟩, ⟨by (with_reducible repeat (first | apply Kd.R_alloc | apply Kd.R_drewN | apply Kd.R_drew)); exact HO_5.out⟩, ⟨by (with_reducible repeat (first | apply Kd.R_alloc | apply Kd.R_drewN | apply Kd.R_drew)); exact HO_6.out⟩, ⟨by (with_reducible repeat (first | apply Kd.R_alloc | apply Kd.R_drewN | apply Kd.R_drew)); exact HO526.out⟩, ⟨ZB⟩⟩
     ·replace c15 := Bool.eq_false_iff.mpr c15
      subst c15
      rw [if_neg Bool.false_ne_true] at H
      obtain ⟨t511, A37, H⟩ := ZO H
      obtain rfl := Option.some.inj H
      obtain ⟨Ao38, co38, eo38⟩ := Kd.R_slice HO_7.out
      subst eo38
      go_wp2_with (first | ((with_reducible refine gate_callee (f := 53) rfl ?_); refine goesL_ (some 60) rfl rfl Try.func53 (by kernel_rfl) rfl #[.slice Ao38 x7_1.length co38] rfl ZA ?_; (with_reducible refine (galoisref01_pack.calls kj6 _ _ x7_1 t511 _ ?side1 ?side2 A37.out).mono ?_); (case side1 => exact ZC (Kd.R_reads' HO_7.out).2.2); (case side2 => exact (Kd.R_reads' HO_7.out).2.1); rintro e w39 ⟨rfl, hb⟩; refine ⟨_, rfl, ?_⟩; replace HO_5 := Aside0.mk (Kd.R_below (ZR HO_5.out) hb); replace HO_6 := Aside0.mk (Kd.R_below (ZR HO_6.out) hb); replace HO_7 := Aside0.mk (Kd.R_below (ZR HO_7.out) hb); replace HB := Aside0.mk (below_step ZB hb); (try clear hb)))
      go_ret
      exact ⟨ZE, ZB⟩
mutual
def galoisref01_Mul.l0 : Nat → List Int → List Int → List Int → Int → Option (ByteArray)
 | 0, _, _, _, _ => none
 | k + 1, x5, x6, x7, x8 => if x8 < (x5.length : Int) then (galoisref01_Mul.l1 k x5 x6 x7 x8 0 0) else ((galoisref01_pack.f k x7).bind fun t536 => (some t536))
def galoisref01_Mul.l1 : Nat → List Int → List Int → List Int → Int → Int → Int → Option (ByteArray)
 | 0, _, _, _, _, _, _ => none
 | k + 1, x5, x6, x7, x8, x9, x10 => if x10 < (x6.length : Int) then (if 0 ≤ (wrap64 (x8 + x10)) then (if (wrap64 (x8 + x10)) < (x7.length : Int) then (if 0 ≤ x8 then (if x8 < (x5.length : Int) then (if 0 ≤ x10 then (galoisref01_Mul.l1 k x5 x6 (x7.set ((wrap64 (x8 + x10)) : Int).toNat (Go.bits .and .u64 (IntKind.u64.wrap ((IntKind.u64.wrap ((rd x7 (wrap64 (x8 + x10))) + (IntKind.u64.wrap ((rd x5 x8) * (rd x6 x10))))) + x9)) 4294967295)) x8 ((IntKind.u64.wrap ((IntKind.u64.wrap ((rd x7 (wrap64 (x8 + x10))) + (IntKind.u64.wrap ((rd x5 x8) * (rd x6 x10))))) + x9)) / 4294967296) (wrap64 (x10 + 1))) else (none)) else (none)) else (none)) else (none)) else (none)) else (if 0 ≤ (wrap64 (x8 + (x6.length : Int))) then (if (wrap64 (x8 + (x6.length : Int))) < (x7.length : Int) then (galoisref01_Mul.l0 k x5 x6 (x7.set ((wrap64 (x8 + (x6.length : Int))) : Int).toNat x9) (wrap64 (x8 + 1))) else (none)) else (none))
end
def galoisref01_Mul.f (k : Nat) (a0 : ByteArray) (a1 : ByteArray) : Option (ByteArray) := (galoisref01_limbs.f k a0).bind fun t527 => ((galoisref01_limbs.f k a1).bind fun t530 => (if 0 ≤ (wrap64 ((t527.length : Int) + (t530.length : Int))) then (if (wrap64 ((t527.length : Int) + (t530.length : Int)) : Int).toNat ≤ 35184372088832 then (galoisref01_Mul.l0 k t527 t530 (List.replicate (wrap64 ((t527.length : Int) + (t530.length : Int)) : Int).toNat 0) 0) else (none)) else (none)))
theorem galoisref01_Mul.U1 {g : Prop} (h : g := by
 repeat' first
 | (with_reducible exact ih0 _ _ _ _)
 | (with_reducible exact ih1 _ _ _ _ _ _)
 | (with_reducible exact galoisref01_limbs.mono _ _)
 | (with_reducible exact galoisref01_pack.mono _ _)
 | (with_reducible exact LeO.refl _)
 | (with_reducible exact LeO.none _)
 | (with_reducible refine LeO.ite ?_ ?_)
 | (with_reducible refine LeO.bind ?_ (fun _ => ?_))) : g := h
theorem galoisref01_Mul.mono_l : ∀ k, (∀ y0 y1 y2 y3, LeO (galoisref01_Mul.l0 k y0 y1 y2 y3) (galoisref01_Mul.l0 (k + 1) y0 y1 y2 y3)) ∧ (∀ y0 y1 y2 y3 y4 y5, LeO (galoisref01_Mul.l1 k y0 y1 y2 y3 y4 y5) (galoisref01_Mul.l1 (k + 1) y0 y1 y2 y3 y4 y5))
 | 0 => ⟨fun _ _ _ _ r h => by simp [galoisref01_Mul.l0] at h, fun _ _ _ _ _ _ r h => by simp [galoisref01_Mul.l1] at h⟩
 | k + 1 => by
  obtain ⟨ih0, ih1⟩ := galoisref01_Mul.mono_l k
  refine ⟨?_, ?_⟩
  ·intro y0 y1 y2 y3
   unfold galoisref01_Mul.l0
   exact galoisref01_Mul.U1
  ·intro y0 y1 y2 y3 y4 y5
   unfold galoisref01_Mul.l1
   exact galoisref01_Mul.U1
theorem galoisref01_Mul.mono : ∀ a0 a1 k, LeO (galoisref01_Mul.f k a0 a1) (galoisref01_Mul.f (k + 1) a0 a1) := by
 intro a0 a1 k
 obtain ⟨ih0, ih1⟩ := galoisref01_Mul.mono_l k
 unfold galoisref01_Mul.f
 exact galoisref01_Mul.U1
def galoisref01_Mul.T10 : Bool × List (List Nat × List Nat) := (true, [([], []), ([], []), ([], []), ([1, 2], [1, 2]), ([0, 3], [0, 3]), ([4], [4]), ([], []), ([], []), ([6, 7], [6, 7]), ([8], [8]), ([], []), ([], []), ([10, 11], [10, 11]), ([12], [12]), ([9, 13], [9, 13]), ([5, 14], [5, 14]), ([], []), ([15, 16], [15, 16]), ([17, 0, 1, 2, 3, 4, 5, 6, 7, 8, 9, 10, 11, 12, 13, 14, 15, 16, 17], [17])])
def galoisref01_Mul.B10 : List Nat := [0, 0, 0, 6, 15, 31, 0, 0, 192, 448, 0, 0, 3072, 7168, 16320, 32767, 0, 131071, 262143]
theorem galoisref01_Mul.tab10 : rtab .any (opsOf Try.f42 10) = galoisref01_Mul.T10 := by kernel_rfl
theorem galoisref01_Mul.bits10 : waitsOk galoisref01_Mul.T10.2 galoisref01_Mul.B10 = true := by kernel_rfl
set_option maxHeartbeats 8000000 in
set_option maxRecDepth 100000 in
theorem galoisref01_Mul.calls (k : Nat) (a0 : ByteArray) (a1 : ByteArray) (r : ByteArray) (w : World) (h : galoisref01_Mul.f k a0 a1 = some r) :
  Calls Try.prog 42 #[.string a0, .string a1] w fun e w' => e = .returned (.string r) ∧ Below w.heap.size w w' := by
 have HB := Aside0.mk (Below.refl w.heap.size w)
 have H := h
 unfold galoisref01_Mul.f at H
 clear h
 obtain ⟨t527, A3, H⟩ := ZO H
 obtain ⟨t530, A4, H⟩ := ZO H
 obtain ⟨ji5, hji5⟩ : ∃ j_ : Int, (wrap64 ((t527.length : Int) + (t530.length : Int))) = j_ := ⟨_, rfl⟩
 (first | rw [hji5] at H | simp only [hji5] at H)
 (try rw [hji5] at A3)
 (try rw [hji5] at A4)
 have hji5w : (IntKind.i64.wrap ((t527.length : Int) + (t530.length : Int))) = ji5 := (i64_w _).trans hji5
 by_cases c6 : 0 ≤ (ji5)
 ·rw [if_pos c6] at H
  have c6b0 := eq_true c6
  have c6b1 : decide (0 ≤ (ji5)) = true := decide_eq_true c6
  clear c6
  obtain ⟨c7, H⟩ := ZI H
  have c7b0 := eq_true c7
  have c7b1 : decide ((ji5 : Int).toNat ≤ 35184372088832) = true := decide_eq_true c7
  clear c7
  obtain ⟨y533, hy533⟩ : ∃ y_ : List Int, y_ = (List.replicate (ji5 : Int).toNat 0) := ⟨_, rfl⟩
  replace H : (galoisref01_Mul.l0 k t527 t530 y533 0) = some r := ZH hy533 H
  have Ny533 := Aside0.mk hy533
  clear hy533
  have H' := Aside0.mk H
  clear H
  go_enter Try.func42, Try.ntmps42
  go_wp2_with (first | ((with_reducible refine gate_callee (f := 51) rfl ?_); refine goesL_ (some 13) rfl rfl Try.func51 (by kernel_rfl) rfl #[.string a0] rfl ZA ?_; (with_reducible refine (galoisref01_limbs.calls k a0 t527 _ A3.out).mono ?_); rintro e w8 ⟨v528, rfl, ho0, hb⟩; refine ⟨_, rfl, ?_⟩; have HO529 := Aside0.mk (Kd.R_lower ho0 (below_size ZB)); replace HB := Aside0.mk (below_step ZB hb); (try clear hb); (try clear ho0)) | ((with_reducible refine gate_callee (f := 51) rfl ?_); refine goesL_ (some 15) rfl rfl Try.func51 (by kernel_rfl) rfl #[.string a1] rfl ZA ?_; (with_reducible refine (galoisref01_limbs.calls k a1 t530 _ A4.out).mono ?_); rintro e w9 ⟨v531, rfl, ho0, hb⟩; refine ⟨_, rfl, ?_⟩; have HO532 := Aside0.mk (Kd.R_lower (Kd.R_new' ho0 (Kd.R_lt (ZR HO529.out))) (below_size ZB)); replace HO529 := Aside0.mk (Kd.R_elder' (ZR HO529.out) (Kd.R_base ho0) hb); replace HB := Aside0.mk (below_step ZB hb); (try clear hb); (try clear ho0); obtain ⟨Ao10, co10, eo10⟩ := Kd.R_slice HO529.out; subst eo10; obtain ⟨Ao11, co11, eo11⟩ := Kd.R_slice HO532.out; subst eo11) | ((with_reducible refine gate_dst (N := 21) rfl ?_); refine Kd.R_make (Kd.int .u64) _ 49 rfl (N := 21) rfl 68 _ _ rfl ji5 rfl rfl Try.underlying68 (.int .u64 0) 8 info49 rfl (by decide) (by omega) 0 (ok := fun _ => True) (okp := fun _ => True) rfl (fun _ hk => hk) trivial (of_decide_eq_true ZD) (Nat.le_trans (Nat.mul_le_mul_right _ (of_decide_eq_true ZD : ji5.toNat ≤ 35184372088832)) (by omega)) (Below.refl _ _) (Nat.le_refl _) ?_; intro v534 w12 ho13 hb hg_ hnew_; clear hg_ hnew_; (first | rw [← Ny533.out] at ho13 | (simp only [Int.reduceToNat] at ho13; rw [← Ny533.out] at ho13)); have HO535 := Aside0.mk (Kd.R_lower (Kd.R_new' (Kd.R_new' ho13 (Kd.R_lt (ZR HO529.out))) (Kd.R_lt (ZR HO532.out))) (below_size ZB)); replace HO529 := Aside0.mk (Kd.R_elder' (ZR HO529.out) (Kd.R_base ho13) hb); replace HO532 := Aside0.mk (Kd.R_elder' (ZR HO532.out) (Kd.R_base ho13) hb); replace HB := Aside0.mk (below_step ZB hb); clear hb ho13))
  go_loopg [8] k (fun kq v8 w' => ∃ (x7_1 : List Int) (x8_1 : Int), v8 = .int .i64 x8_1 ∧ Aside0 (galoisref01_Mul.l0 kq t527 t530 x7_1 x8_1 = some r) ∧ Aside0 (kq ≤ k) ∧ Aside0 (Kd.R (Kd.int .u64) 49 w' w.heap.size (fun k_ => some k_ ≠ ((.slice Ao11 t530.length co11) : Value).ownBlock ∧ some k_ ≠ (v534 : Value).ownBlock) (.slice Ao10 t527.length co10) t527) ∧ Aside0 (Kd.R (Kd.int .u64) 49 w' w.heap.size (fun k_ => some k_ ≠ ((.slice Ao10 t527.length co10) : Value).ownBlock ∧ some k_ ≠ (v534 : Value).ownBlock) (.slice Ao11 t530.length co11) t530) ∧ Aside0 (Kd.R (Kd.int .u64) 49 w' w.heap.size (fun k_ => some k_ ≠ ((.slice Ao10 t527.length co10) : Value).ownBlock ∧ some k_ ≠ ((.slice Ao11 t530.length co11) : Value).ownBlock) v534 x7_1) ∧ Aside0 (Below w.heap.size w w'))
  case atStart => exact ⟨(y533), (0), ZS, H', ⟨Nat.le_refl _⟩, ⟨by (with_reducible repeat (first | apply Kd.R_alloc | apply Kd.R_drewN | apply Kd.R_drew)); exact Kd.R_mono HO529.out (fun _ hk => ⟨hk.1.2, hk.2⟩)⟩, ⟨by (with_reducible repeat (first | apply Kd.R_alloc | apply Kd.R_drewN | apply Kd.R_drew)); exact Kd.R_mono HO532.out (fun _ hk => ⟨hk.1.2, hk.2⟩)⟩, ⟨by (with_reducible repeat (first | apply Kd.R_alloc | apply Kd.R_drewN | apply Kd.R_drew)); exact Kd.R_mono HO535.out (fun _ hk => ⟨hk.1.2, hk.2⟩)⟩, ⟨ZB⟩⟩
  case round =>
   clear H'
   try clear c6
   try clear c6b0
   try clear c6b1
   try clear c7
   try clear c7b0
   try clear c7b1
   obtain ⟨x7_1, x8_1, rfl, HA, HK1, HO_5, HO_6, HO_7, HB⟩ := hrel
   cases gk with
   | zero => exact absurd HA.out (by simp [galoisref01_Mul.l0])
   | succ k1 =>
    have H := HA.out
    clear HA
    simp only [galoisref01_Mul.l0] at H
    by_cases c14 : x8_1 < (t527.length : Int)
    ·rw [if_pos c14] at H
     have c14b0 : decide (x8_1 < (t527.length : Int)) = true := decide_eq_true c14
     clear c14
     have H' := Aside0.mk H
     clear H
     go_wp2
     go_loopg [9, 10] k1 (fun kq v9 v10 w' => ∃ (x7_2 : List Int) (x9_2 : Int) (x10_2 : Int), v9 = .int .u64 x9_2 ∧ v10 = .int .i64 x10_2 ∧ Aside0 (galoisref01_Mul.l1 kq t527 t530 x7_2 x8_1 x9_2 x10_2 = some r) ∧ Aside0 (kq ≤ k1) ∧ Aside0 (Kd.R (Kd.int .u64) 49 w' w.heap.size (fun k_ => some k_ ≠ ((.slice Ao11 t530.length co11) : Value).ownBlock ∧ some k_ ≠ (v534 : Value).ownBlock) (.slice Ao10 t527.length co10) t527) ∧ Aside0 (Kd.R (Kd.int .u64) 49 w' w.heap.size (fun k_ => some k_ ≠ ((.slice Ao10 t527.length co10) : Value).ownBlock ∧ some k_ ≠ (v534 : Value).ownBlock) (.slice Ao11 t530.length co11) t530) ∧ Aside0 (Kd.R (Kd.int .u64) 49 w' w.heap.size (fun k_ => some k_ ≠ ((.slice Ao10 t527.length co10) : Value).ownBlock ∧ some k_ ≠ ((.slice Ao11 t530.length co11) : Value).ownBlock) v534 x7_2) ∧ Aside0 (Below w.heap.size w w'))
     case atStart => exact ⟨(x7_1), (0), (0), ZS, ZS, H', ⟨Nat.le_refl _⟩, ⟨by (with_reducible repeat (first | apply Kd.R_alloc | apply Kd.R_drewN | apply Kd.R_drew)); exact HO_5.out⟩, ⟨by (with_reducible repeat (first | apply Kd.R_alloc | apply Kd.R_drewN | apply Kd.R_drew)); exact HO_6.out⟩, ⟨by (with_reducible repeat (first | apply Kd.R_alloc | apply Kd.R_drewN | apply Kd.R_drew)); exact HO_7.out⟩, ⟨ZB⟩⟩
     case round =>
      clear H'
      try clear c14
      try clear c14b0
      obtain ⟨x7_2, x9_2, x10_2, rfl, rfl, HA, HK2, HO_5, HO_6, HO_7, HB⟩ := hrel
      cases gk with
      | zero => exact absurd HA.out (by simp [galoisref01_Mul.l1])
      | succ k2 =>
       have H := HA.out
       clear HA
       simp only [galoisref01_Mul.l1] at H
       by_cases c15 : x10_2 < (t530.length : Int)
       ·rw [if_pos c15] at H
        have c15b0 : decide (x10_2 < (t530.length : Int)) = true := decide_eq_true c15
        clear c15
        obtain ⟨ji16, hji16⟩ : ∃ j_ : Int, (wrap64 (x8_1 + x10_2)) = j_ := ⟨_, rfl⟩
        (first | rw [hji16] at H | simp only [hji16] at H)
        have hji16w : (IntKind.i64.wrap (x8_1 + x10_2)) = ji16 := (i64_w _).trans hji16
        obtain ⟨c17, H⟩ := ZI H
        have c17b0 : decide (0 ≤ (ji16)) = true := decide_eq_true c17
        clear c17
        obtain ⟨c18, H⟩ := ZI H
        have c18b0 : decide ((ji16) < (x7_2.length : Int)) = true := decide_eq_true c18
        clear c18
        obtain ⟨c19, H⟩ := ZI H
        have c19b0 : decide (0 ≤ x8_1) = true := decide_eq_true c19
        clear c19
        obtain ⟨c20, H⟩ := ZI H
        have c20b0 : decide (x8_1 < (t527.length : Int)) = true := decide_eq_true c20
        clear c20
        obtain ⟨c21, H⟩ := ZI H
        have c21b0 : decide (0 ≤ x10_2) = true := decide_eq_true c21
        clear c21
        obtain ⟨y540, hy540⟩ : ∃ y_ : List Int, y_ = (x7_2.set ((ji16) : Int).toNat (Go.bits .and .u64 (IntKind.u64.wrap ((IntKind.u64.wrap ((rd x7_2 (ji16)) + (IntKind.u64.wrap ((rd t527 x8_1) * (rd t530 x10_2))))) + x9_2)) 4294967295)) := ⟨_, rfl⟩
        replace H : (galoisref01_Mul.l1 k2 t527 t530 y540 x8_1 ((IntKind.u64.wrap ((IntKind.u64.wrap ((rd x7_2 (ji16)) + (IntKind.u64.wrap ((rd t527 x8_1) * (rd t530 x10_2))))) + x9_2)) / 4294967296) (wrap64 (x10_2 + 1))) = some r := ZH hy540 H
        have Ny540 := Aside0.mk hy540
        clear hy540
        have H' := Aside0.mk H
        clear H
        try go_wp2
        replace HO_5 := Aside0.mk (Kd.R_drew HO_5.out)
        replace HO_6 := Aside0.mk (Kd.R_drew HO_6.out)
        replace HO_7 := Aside0.mk (Kd.R_drew HO_7.out)
        replace HB := Aside0.mk (below_drew1 HB.out)
        obtain ⟨Ao24, co24, eo24⟩ := Kd.R_slice HO_7.out
        (first | subst eo24 | (injection eo24 with f1_ f2_ f3_; have f4_ := f1_.symm; have f5_ := f3_.symm; clear f1_ f2_ f3_; subst f4_; subst f5_))
        have p537 : 0 ≤ ((ji16) : Int) := of_decide_eq_true ZD
        have q537 : (ji16) < (x7_2.length : Int) := of_decide_eq_true ZD
        obtain ⟨ad537, e537, hx537_0⟩ := Kd.at_int (Kd.R_reads' HO_7.out).2.2 (ji16) p537 q537
        cases e537
        replace p537 := eq_true p537
        replace q537 := eq_true q537
        have p538 : 0 ≤ (x8_1 : Int) := of_decide_eq_true ZD
        have q538 : x8_1 < (t527.length : Int) := of_decide_eq_true ZD
        obtain ⟨ad538, e538, hx538_0⟩ := Kd.at_int (Kd.R_reads' HO_5.out).2.2 x8_1 p538 q538
        cases e538
        replace p538 := eq_true p538
        replace q538 := eq_true q538
        have p539 : 0 ≤ (x10_2 : Int) := of_decide_eq_true ZD
        have q539 : x10_2 < (t530.length : Int) := of_decide_eq_true ZD
        obtain ⟨ad539, e539, hx539_0⟩ := Kd.at_int (Kd.R_reads' HO_6.out).2.2 x10_2 p539 q539
        cases e539
        replace p539 := eq_true p539
        replace q539 := eq_true q539
        refine start_ (n := 19) (S := fun w' => w'.cell? (ad537.add ((ji16)).toNat) = some (.int .u64 (rd x7_2 (ji16))) ∧ w'.cell? (ad538.add (x8_1).toNat) = some (.int .u64 (rd t527 x8_1)) ∧ w'.cell? (ad539.add (x10_2).toNat) = some (.int .u64 (rd t530 x10_2))) (ds := []) #[false, false, false, false, false, false, false, false, false, false, false, false, false, false, false, false, false, false, false] (by kernel_rfl) rfl rfl ⟨hx537_0, hx538_0, hx539_0⟩ (fun hHeld => ?_); refine with_tabW galoisref01_Mul.tab10 galoisref01_Mul.bits10 (fun HT_ HW_ => ?_)
        generalize wr.drew = w23 at HO_5 HO_6 HO_7 HB hx537_0 hx538_0 hx539_0 hHeld ⊢
        refine ZP 0 34 #[true, false, false, false, false, false, false, false, false, false, false, false, false, false, false, false, false, false, false] ?_
        refine ZP 1 35 #[true, true, false, false, false, false, false, false, false, false, false, false, false, false, false, false, false, false, false] ?_
        refine ZP 2 36 #[true, true, true, false, false, false, false, false, false, false, false, false, false, false, false, false, false, false, false] ?_
        refine ZP 3 37 #[true, true, true, true, false, false, false, false, false, false, false, false, false, false, false, false, false, false, false] ?_
        refine ZP 4 38 #[true, true, true, true, true, false, false, false, false, false, false, false, false, false, false, false, false, false, false] ?_
        refine ZP 6 40 #[true, true, true, true, true, false, true, false, false, false, false, false, false, false, false, false, false, false, false] ?_
        refine ZP 7 41 #[true, true, true, true, true, false, true, true, false, false, false, false, false, false, false, false, false, false, false] ?_
        refine ZP 8 42 #[true, true, true, true, true, false, true, true, true, false, false, false, false, false, false, false, false, false, false] ?_
        refine ZP 10 44 #[true, true, true, true, true, false, true, true, true, false, true, false, false, false, false, false, false, false, false] ?_
        refine ZP 11 45 #[true, true, true, true, true, false, true, true, true, false, true, true, false, false, false, false, false, false, false] ?_
        refine ZP 12 46 #[true, true, true, true, true, false, true, true, true, false, true, true, true, false, false, false, false, false, false] ?_
        refine ZP 16 50 #[true, true, true, true, true, false, true, true, true, false, true, true, true, false, false, false, true, false, false] ?_
        refine take_ (i := 5) (N := some 39) (v := ?_) (a' := ?_) #[true, true, true, true, true, true, true, true, true, false, true, true, true, false, false, false, true, false, false] rfl rfl (take_ofW HT_.out HW_.out (by kernel_rfl)) (fun _ _ _ h => h) (Or.inl ⟨by rfl, ?_⟩) hHeld ?_ ?_
        rotate_left
        ·rintro w' ⟨s0, s1, s2⟩
         (try simp only [Int.toNat_natCast] at s0 s1 s2)
         go_simp
         with_reducible rfl
        rotate_left
        ·simp only [Act.put, List.setIfInBounds_toArray, List.set_cons_zero, List.set_cons_succ, i64_w, i32_w]
         rfl
        refine take_ (i := 9) (N := some 43) (v := ?_) (a' := ?_) #[true, true, true, true, true, true, true, true, true, true, true, true, true, false, false, false, true, false, false] rfl rfl (take_ofW HT_.out HW_.out (by kernel_rfl)) (fun _ _ _ h => h) (Or.inl ⟨by rfl, ?_⟩) hHeld ?_ ?_
        rotate_left
        ·rintro w' ⟨s0, s1, s2⟩
         (try simp only [Int.toNat_natCast] at s0 s1 s2)
         go_simp
         with_reducible rfl
        rotate_left
        ·simp only [Act.put, List.setIfInBounds_toArray, List.set_cons_zero, List.set_cons_succ, i64_w, i32_w]
         rfl
        refine take_ (i := 13) (N := some 47) (v := ?_) (a' := ?_) #[true, true, true, true, true, true, true, true, true, true, true, true, true, true, false, false, true, false, false] rfl rfl (take_ofW HT_.out HW_.out (by kernel_rfl)) (fun _ _ _ h => h) (Or.inl ⟨by rfl, ?_⟩) hHeld ?_ ?_
        rotate_left
        ·rintro w' ⟨s0, s1, s2⟩
         (try simp only [Int.toNat_natCast] at s0 s1 s2)
         go_simp
         with_reducible rfl
        rotate_left
        ·simp only [Act.put, List.setIfInBounds_toArray, List.set_cons_zero, List.set_cons_succ, i64_w, i32_w]
         rfl
        refine ZP 14 48 #[true, true, true, true, true, true, true, true, true, true, true, true, true, true, true, false, true, false, false] ?_
        refine ZP 15 49 #[true, true, true, true, true, true, true, true, true, true, true, true, true, true, true, true, true, false, false] ?_
        refine ZP 17 51 #[true, true, true, true, true, true, true, true, true, true, true, true, true, true, true, true, true, true, false] ?_
        refine ZP 18 11 #[true, true, true, true, true, true, true, true, true, true, true, true, true, true, true, true, true, true, true] ?_
        refine done_ (done_of HT_.out (by kernel_rfl)) ?_
        have p22 : 0 ≤ ((ji16) : Int) := of_decide_eq_true ZD
        have q22 : ((ji16) : Int) < ((x7_2.length : Int) : Int) := of_decide_eq_true ZD
        obtain ⟨go22, co22, eo22, gb22, gl22, cl22, HG22⟩ := Kd.R_form HO_7.out (by omega)
        (first | cases eo22 | (injection eo22 with ea_ en_ ec_; (first | subst ea_ | (injection ea_ with ea_; subst ea_)); subst ec_; clear en_))
        have GB22 := Aside0.mk gb22
        have GG22 := Aside0.mk HG22
        clear gb22 gl22 HG22
        (first | simp only [add_plain] at hx537_0 | skip)
        obtain ⟨hx22_0, hf22_0⟩ := Kd.R_celln 0 HO_7.out ((ji16) : Int) p22 q22; (try simp only [Int.toNat_natCast] at hx22_0 hf22_0)
        replace p22 := eq_true p22
        replace q22 := eq_true q22
        obtain ⟨hy25_, hz25_⟩ := Kd.R_celln 0 HO_7.out ((ji16) : Int) (of_decide_eq_true ZD) (of_decide_eq_true ZD); (try simp only [Int.toNat_natCast] at hy25_ hz25_)
        have HP25 := Kd.R_putg HO_7.out ((ji16) : Int) (Go.bits .and .u64 (IntKind.u64.wrap ((IntKind.u64.wrap ((rd x7_2 (ji16)) + (IntKind.u64.wrap ((rd t527 x8_1) * (rd t530 x10_2))))) + x9_2)) 4294967295)
        try go_wp2_with (first | ((with_reducible refine gate_store (t := 49) (p := 58) rfl ?_); refine store_event (t := 49) (p := 58) (v := ?vo_w26) (w1 := (w23.setCell ⟨go22, ((ji16) : Int).toNat, none⟩ (.int .u64 (Go.bits .and .u64 (IntKind.u64.wrap ((IntKind.u64.wrap ((rd x7_2 (ji16)) + (IntKind.u64.wrap ((rd t527 x8_1) * (rd t530 x10_2))))) + x9_2)) 4294967295)))) ?hg ?ho ?hn ?hr ?_; (case ho => rfl); (case hg => rfl); (case hn => rfl); (case hr => first | (go_simp; done) | (go_simp; rfl)); intro w26 hw; have hg : w23.grownBy w26 (some go22) := (by rw [hw]; exact HP25.2); have hp_ : Kd.R (Kd.int .u64) 49 w26 w.heap.size (fun k_ => some k_ ≠ (.slice (some ad538) t527.length co10 : Value).ownBlock ∧ some k_ ≠ (.slice (some ad539) t530.length co11 : Value).ownBlock) (.slice (some ⟨go22, 0, none⟩) x7_2.length co24) y540 := (by rw [hw, Ny540.out]; exact HP25.1); clear HP25; replace HO_5 := Aside0.mk (Kd.R_after (v := (.slice (some ⟨go22, 0, none⟩) x7_2.length co24)) (v1 := (.slice (some ⟨go22, 0, none⟩) x7_2.length co24)) (ok := (fun k_ => some k_ ≠ (.slice (some ad539) t530.length co11 : Value).ownBlock)) (ZR HO_5.out) hg (.inl rfl)); replace HO_6 := Aside0.mk (Kd.R_after (v := (.slice (some ⟨go22, 0, none⟩) x7_2.length co24)) (v1 := (.slice (some ⟨go22, 0, none⟩) x7_2.length co24)) (ok := (fun k_ => some k_ ≠ (.slice (some ad538) t527.length co10 : Value).ownBlock)) (ZR HO_6.out) hg (.inl rfl)); replace HO_7 := Aside0.mk (hp_); replace HB := Aside0.mk ((by rw [hw]; exact below_set (HB.out) GB22.out : Below w.heap.size w w26)); clear hg hw hp_))
        go_roundg k2
        case measure => have := HK1.out; have := HK2.out; omega
        case rel => exact ⟨(y540), ((IntKind.u64.wrap ((IntKind.u64.wrap ((rd x7_2 (ji16)) + (IntKind.u64.wrap ((rd t527 x8_1) * (rd t530 x10_2))))) + x9_2)) / 4294967296), (wrap64 (x10_2 + 1)), (by first | rfl | (simp; done) | (simp only [← hji16] <;> (first | rfl | simp)) | (simp [*]; done)), ZS, H', ⟨by have := HK1.out; have := HK2.out; omega⟩, ⟨by (with_reducible repeat (first | apply Kd.R_alloc | apply Kd.R_drewN | apply Kd.R_drew)); exact HO_5.out⟩, ⟨by (with_reducible repeat (first | apply Kd.R_alloc | apply Kd.R_drewN | apply Kd.R_drew)); exact HO_6.out⟩, ⟨by (with_reducible repeat (first | apply Kd.R_alloc | apply Kd.R_drewN | apply Kd.R_drew)); exact HO_7.out⟩, ⟨ZB⟩⟩
       ·rw [if_neg c15] at H
        have c15b0 : decide (x10_2 < (t530.length : Int)) = false := decide_eq_false c15
        clear c15
        obtain ⟨ji27, hji27⟩ : ∃ j_ : Int, (wrap64 (x8_1 + (t530.length : Int))) = j_ := ⟨_, rfl⟩
        (first | rw [hji27] at H | simp only [hji27] at H)
        have hji27w : (IntKind.i64.wrap (x8_1 + (t530.length : Int))) = ji27 := (i64_w _).trans hji27
        obtain ⟨c28, H⟩ := ZI H
        have c28b0 : decide (0 ≤ (ji27)) = true := decide_eq_true c28
        clear c28
        obtain ⟨c29, H⟩ := ZI H
        have c29b0 : decide ((ji27) < (x7_2.length : Int)) = true := decide_eq_true c29
        clear c29
        obtain ⟨y541, hy541⟩ : ∃ y_ : List Int, y_ = (x7_2.set ((ji27) : Int).toNat x9_2) := ⟨_, rfl⟩
        replace H : (galoisref01_Mul.l0 k2 t527 t530 y541 (wrap64 (x8_1 + 1))) = some r := ZH hy541 H
        have Ny541 := Aside0.mk hy541
        clear hy541
        have H' := Aside0.mk H
        clear H
        have p30 : 0 ≤ ((ji27) : Int) := of_decide_eq_true ZD
        have q30 : ((ji27) : Int) < ((x7_2.length : Int) : Int) := of_decide_eq_true ZD
        obtain ⟨go30, co30, eo30, gb30, gl30, cl30, HG30⟩ := Kd.R_form HO_7.out (by omega)
        (first | cases eo30 | (injection eo30 with ea_ en_ ec_; (first | subst ea_ | (injection ea_ with ea_; subst ea_)); subst ec_; clear en_))
        have GB30 := Aside0.mk gb30
        have GG30 := Aside0.mk HG30
        clear gb30 gl30 HG30
        obtain ⟨hx30_0, hf30_0⟩ := Kd.R_celln 0 HO_7.out ((ji27) : Int) p30 q30; (try simp only [Int.toNat_natCast] at hx30_0 hf30_0)
        replace p30 := eq_true p30
        replace q30 := eq_true q30
        have HP31 := Kd.R_putg HO_7.out ((ji27) : Int) x9_2
        go_wp2_with (first | ((with_reducible refine gate_store (t := 49) (p := 67) rfl ?_); refine store_event (t := 49) (p := 67) (v := ?vo_w32) (w1 := (wr.setCell ⟨go30, ((ji27) : Int).toNat, none⟩ (.int .u64 x9_2))) ?hg ?ho ?hn ?hr ?_; (case ho => rfl); (case hg => rfl); (case hn => rfl); (case hr => first | (go_simp; done) | (go_simp; rfl)); intro w32 hw; have hg : wr.grownBy w32 (some go30) := (by rw [hw]; exact HP31.2); have hp_ : Kd.R (Kd.int .u64) 49 w32 w.heap.size (fun k_ => some k_ ≠ (.slice Ao10 t527.length co10 : Value).ownBlock ∧ some k_ ≠ (.slice Ao11 t530.length co11 : Value).ownBlock) (.slice (some ⟨go30, 0, none⟩) x7_2.length co30) y541 := (by rw [hw, Ny541.out]; exact HP31.1); clear HP31; replace HO_5 := Aside0.mk (Kd.R_after (v := (.slice (some ⟨go30, 0, none⟩) x7_2.length co30)) (v1 := (.slice (some ⟨go30, 0, none⟩) x7_2.length co30)) (ok := (fun k_ => some k_ ≠ (.slice Ao11 t530.length co11 : Value).ownBlock)) (ZR HO_5.out) hg (.inl rfl)); replace HO_6 := Aside0.mk (Kd.R_after (v := (.slice (some ⟨go30, 0, none⟩) x7_2.length co30)) (v1 := (.slice (some ⟨go30, 0, none⟩) x7_2.length co30)) (ok := (fun k_ => some k_ ≠ (.slice Ao10 t527.length co10 : Value).ownBlock)) (ZR HO_6.out) hg (.inl rfl)); replace HO_7 := Aside0.mk (hp_); replace HB := Aside0.mk ((by rw [hw]; exact below_set (HB.out) GB30.out : Below w.heap.size w w32)); clear hg hw hp_))
        go_roundg k2
        case measure => have := HK1.out; have := HK2.out; omega
        case rel => exact ⟨(y541), (wrap64 (x8_1 + 1)), ZS, H', ⟨by have := HK1.out; have := HK2.out; omega⟩, ⟨by (with_reducible repeat (first | apply Kd.R_alloc | apply Kd.R_drewN | apply Kd.R_drew)); exact HO_5.out⟩, ⟨by (with_reducible repeat (first | apply Kd.R_alloc | apply Kd.R_drewN | apply Kd.R_drew)); exact HO_6.out⟩, ⟨by (with_reducible repeat (first | apply Kd.R_alloc | apply Kd.R_drewN | apply Kd.R_drew)); exact HO_7.out⟩, ⟨ZB⟩⟩
    ·rw [if_neg c14] at H
     have c14b0 : decide (x8_1 < (t527.length : Int)) = false := decide_eq_false c14
     clear c14
     obtain ⟨t536, A33, H⟩ := ZO H
     obtain rfl := Option.some.inj H
     obtain ⟨Ao34, co34, eo34⟩ := Kd.R_slice HO_7.out
     subst eo34
     go_wp2_with (first | ((with_reducible refine gate_callee (f := 53) rfl ?_); refine goesL_ (some 69) rfl rfl Try.func53 (by kernel_rfl) rfl #[.slice Ao34 x7_1.length co34] rfl ZA ?_; (with_reducible refine (galoisref01_pack.calls k1 _ _ x7_1 t536 _ ?side1 ?side2 A33.out).mono ?_); (case side1 => exact ZC (Kd.R_reads' HO_7.out).2.2); (case side2 => exact (Kd.R_reads' HO_7.out).2.1); rintro e w35 ⟨rfl, hb⟩; refine ⟨_, rfl, ?_⟩; replace HO_5 := Aside0.mk (Kd.R_below (ZR HO_5.out) hb); replace HO_6 := Aside0.mk (Kd.R_below (ZR HO_6.out) hb); replace HO_7 := Aside0.mk (Kd.R_below (ZR HO_7.out) hb); replace HB := Aside0.mk (below_step ZB hb); (try clear hb)))
     go_ret
     exact ⟨by first | rfl | (simp [errW_none, errW_some] <;> rfl) | (simp only [← hji5]; first | rfl | (simp [errW_none, errW_some] <;> rfl)) | (simp [*, errW_none, errW_some] <;> rfl), ZB⟩
 ·rw [if_neg c6] at H
  exact absurd H (by simp)
def galoisref01_TwoTo.f (a0 : Int) : Option (ByteArray) := if 0 ≤ (wrap64 ((wrap64 (Int.tdiv a0 8)) + 1)) then (if (wrap64 ((wrap64 (Int.tdiv a0 8)) + 1) : Int).toNat ≤ 281474976710656 then ((some (List.replicate (wrap64 ((wrap64 (Int.tdiv a0 8)) + 1) : Int).toNat 0 : List Int)).bind fun y542 => (if 0 ≤ (Int.tmod a0 8) then (if 0 < (y542.length : Int) then (some (strOfNums (y542.set (0 : Int).toNat (shl .u8 1 (Int.tmod a0 8))))) else (none)) else (none))) else (none)) else (none)
set_option maxHeartbeats 8000000 in
set_option maxRecDepth 100000 in
theorem galoisref01_TwoTo.calls (a0 : Int) (r : ByteArray) (w : World) (h : galoisref01_TwoTo.f a0 = some r) :
  Calls Try.prog 60 #[.int .i64 a0] w fun e w' => e = .returned (.string r) ∧ Below w.heap.size w w' := by
 have HB := Aside0.mk (Below.refl w.heap.size w)
 have H := h
 unfold galoisref01_TwoTo.f at H
 clear h
 obtain ⟨ji2, hji2⟩ : ∃ j_ : Int, (wrap64 ((wrap64 (Int.tdiv a0 8)) + 1)) = j_ := ⟨_, rfl⟩
 (first | rw [hji2] at H | simp only [hji2] at H)
 have hji2w : (IntKind.i64.wrap ((wrap64 (Int.tdiv a0 8)) + 1)) = ji2 := (i64_w _).trans hji2
 by_cases c3 : 0 ≤ (ji2)
 ·rw [if_pos c3] at H
  have c3b0 := eq_true c3
  have c3b1 : decide (0 ≤ (ji2)) = true := decide_eq_true c3
  clear c3
  obtain ⟨c4, H⟩ := ZI H
  have c4b0 := eq_true c4
  have c4b1 : decide ((ji2 : Int).toNat ≤ 281474976710656) = true := decide_eq_true c4
  clear c4
  obtain ⟨y542, hy542⟩ : ∃ y_ : List Int, y_ = (List.replicate (ji2 : Int).toNat 0) := ⟨_, rfl⟩
  replace H : (if 0 ≤ (Int.tmod a0 8) then (if 0 < (y542.length : Int) then (some (strOfNums (y542.set (0 : Int).toNat (shl .u8 1 (Int.tmod a0 8))))) else (none)) else (none)) = some r := ZH hy542 H
  have Ny542 := Aside0.mk hy542
  clear hy542
  obtain ⟨ji5, hji5⟩ : ∃ j_ : Int, (Int.tmod a0 8) = j_ := ⟨_, rfl⟩
  (first | rw [hji5] at H | simp only [hji5] at H)
  obtain ⟨c6, H⟩ := ZI H
  have c6b0 := eq_true c6
  have c6b1 : decide (0 ≤ (ji5)) = true := decide_eq_true c6
  clear c6
  obtain ⟨ji7, hji7⟩ : ∃ j_ : Int, (shl .u8 1 (ji5)) = j_ := ⟨_, rfl⟩
  (first | rw [hji7] at H | simp only [hji7] at H)
  have hji7_ : (IntKind.u8.wrap (1 * 2 ^ min (ji5).toNat 8)) = ji7 := hji7
  have hji7z : (ji5) ≤ 8 → (IntKind.u8.wrap (1 * 2 ^ (ji5).toNat)) = ji7 := shl_small hji7
  have hji7u : (IntKind.u8.wrap (2 ^ min (ji5).toNat 8)) = ji7 := by have h_ := hji7_; rw [Int.one_mul] at h_; exact h_
  have hji7v : (ji5) ≤ 8 → (IntKind.u8.wrap (2 ^ (ji5).toNat)) = ji7 := fun hle_ => by have h_ := hji7z hle_; rw [Int.one_mul] at h_; exact h_
  obtain ⟨c8, H⟩ := ZI H
  have c8b0 : decide (0 < (y542.length : Int)) = true := decide_eq_true c8
  have c8b1 : decide (0 < y542.length) = true := decide_eq_true (by omega)
  clear c8
  obtain ⟨y545, hy545⟩ : ∃ y_ : List Int, y_ = (y542.set (0 : Int).toNat (ji7)) := ⟨_, rfl⟩
  replace H : (some (strOfNums y545)) = some r := ZH hy545 H
  have Ny545 := Aside0.mk hy545
  clear hy545
  obtain rfl := Option.some.inj H
  go_enter Try.func60, Try.ntmps60
  go_wp2_with (first | ((with_reducible refine gate_dst (N := 7) rfl ?_); refine Kd.R_make (Kd.int .u8) _ 5 rfl (N := 7) rfl 75 _ _ rfl ji2 rfl rfl Try.underlying75 (.int .u8 0) 1 info5 rfl (by decide) (by omega) 0 (ok := fun _ => True) (okp := fun _ => True) rfl (fun _ hk => hk) trivial (of_decide_eq_true ZD) (Nat.le_trans (Nat.mul_le_mul_right _ (of_decide_eq_true ZD : ji2.toNat ≤ 281474976710656)) (by omega)) (Below.refl _ _) (Nat.le_refl _) ?_; intro v543 w10 ho11 hb hg_ hnew_; clear hg_ hnew_; (first | rw [← Ny542.out] at ho11 | (simp only [Int.reduceToNat] at ho11; rw [← Ny542.out] at ho11)); have HO544 := Aside0.mk (Kd.R_lower ho11 (below_size ZB)); replace HB := Aside0.mk (below_step ZB hb); clear hb ho11; have p9 : 0 ≤ (0 : Int) := (by omega); have q9 : (0 : Int) < ((y542.length : Int) : Int) := of_decide_eq_true ZD; have qi9 : (0 < y542.length) = True := eq_true (by omega); obtain ⟨go9, co9, eo9, gb9, gl9, cl9, HG9⟩ := Kd.R_form HO544.out (by omega); (first | cases eo9 | (injection eo9 with ea_ en_ ec_; (first | subst ea_ | (injection ea_ with ea_; subst ea_)); subst ec_; clear en_)); have GB9 := Aside0.mk gb9; have GG9 := Aside0.mk HG9; clear gb9 gl9 HG9; obtain ⟨hx9_0, hf9_0⟩ := Kd.R_celln 0 HO544.out (0 : Int) p9 q9; (try simp only [Int.toNat_natCast] at hx9_0 hf9_0); (try rw [show ((0 : Int)).toNat = 0 from rfl] at hx9_0); (try simp only [Nat.reduceMul, Nat.zero_mul, Nat.zero_add, Nat.reduceAdd] at hx9_0); (try rw [show ((0 : Int)).toNat = 0 from rfl] at hf9_0); (try simp only [Nat.reduceMul, Nat.zero_mul, Nat.zero_add, Nat.reduceAdd] at hf9_0); replace p9 := eq_true p9; replace q9 := eq_true q9; obtain ⟨hy12_, hz12_⟩ := Kd.R_celln 0 HO544.out (0 : Int) (by omega) (of_decide_eq_true ZD); (try simp only [Int.toNat_natCast] at hy12_ hz12_); (try simp only [Int.reduceToNat, Int.toNat_zero, Int.toNat_ofNat, Nat.reduceMul, Nat.zero_mul, Nat.zero_add] at hy12_ hz12_); (try rw [show ((0 : Int)).toNat = 0 from rfl] at hy12_); (try rw [show ((0 : Int)).toNat = 0 from rfl] at hz12_); have HP12 := Kd.R_putg HO544.out (0 : Int) ji7) | ((with_reducible refine gate_store (t := 5) (p := 12) rfl ?_); refine store_event (t := 5) (p := 12) (v := ?vo_w13) (w1 := (w10.setCell ⟨go9, (0 : Int).toNat, none⟩ (.int .u8 ji7))) ?hg ?ho ?hn ?hr ?_; (case ho => rfl); (case hg => rfl); (case hn => rfl); (case hr => first | (go_simp; done) | (go_simp; rfl)); intro w13 hw; have hg : w10.grownBy w13 (some go9) := (by rw [hw]; exact HP12.2); have hp_ : Kd.R (Kd.int .u8) 5 w13 w.heap.size (fun _ => True) (.slice (some ⟨go9, 0, none⟩) y542.length co9) y545 := (by rw [hw, Ny545.out]; exact HP12.1); clear HP12; replace HO544 := Aside0.mk (hp_); replace HB := Aside0.mk ((by rw [hw]; exact below_set (HB.out) GB9.out : Below w.heap.size w w13)); clear hg hw hp_; have hcv14 := own_string (P := Try.prog) Try.underlying75 Try.underlying5 Try.underlying9 (Kd.own_of_R HO544.out)))
  go_ret
  exact ⟨by first | rfl | (simp [errW_none, errW_some] <;> rfl) | (simp only [← hji2, ← hji5, ← hji7]; first | rfl | (simp [errW_none, errW_some] <;> rfl)) | (simp [*, errW_none, errW_some] <;> rfl), ZB⟩
 ·rw [if_neg c3] at H
  exact absurd H (by simp)
end Go.Proofs.Ytohkmnbnjacfaaa.All
namespace Go.Proofs.Ytohkmnbnjacfaaa.All
open Go.Proofs.YtohkmnbnjacfaaaX
open Go.RowKit Go.Proofs.YtohkmnbnjacfaaaW.PrintWords Go.Proofs.YtohkmnbnjacfaaaW.PrintLast Go.Proofs.YtohkmnbnjacfaaaW.PrintMore
attribute [local go_sem] max2_int min2_int max_two min_two max_three min_three max_four min_four
set_option linter.unusedVariables false
set_option linter.unusedSimpArgs false
def galoisref01_Pow.l0 : Nat → ByteArray → Int → ByteArray → Option (ByteArray)
 | 0, _, _, _ => none
 | k + 1, x0, x1, x5 => if x1 > 0 then (if (Int.tmod x1 2) = 1 then ((galoisref01_Mul.f k x5 x0).bind fun t547 => ((galoisref01_Mul.f k x0 x0).bind fun t548 => (galoisref01_Pow.l0 k t548 (wrap64 (Int.tdiv x1 2)) t547))) else ((galoisref01_Mul.f k x0 x0).bind fun t549 => (galoisref01_Pow.l0 k t549 (wrap64 (Int.tdiv x1 2)) x5))) else (some x5)
def galoisref01_Pow.f (k : Nat) (a0 : ByteArray) (a1 : Int) : Option (ByteArray) := (galoisref01_Of.f k 1).bind fun t546 => (galoisref01_Pow.l0 k a0 a1 t546)
theorem galoisref01_Pow.U1 {g : Prop} (h : g := by
 repeat' first
 | (with_reducible exact ih0 _ _ _)
 | (with_reducible exact galoisref01_Mul.mono _ _ _)
 | (with_reducible exact galoisref01_Of.mono _ _)
 | (with_reducible exact LeO.refl _)
 | (with_reducible exact LeO.none _)
 | (with_reducible refine LeO.ite ?_ ?_)
 | (with_reducible refine LeO.bind ?_ (fun _ => ?_))) : g := h
theorem galoisref01_Pow.mono_l : ∀ k, (∀ y0 y1 y2, LeO (galoisref01_Pow.l0 k y0 y1 y2) (galoisref01_Pow.l0 (k + 1) y0 y1 y2))
 | 0 => fun _ _ _ r h => by simp [galoisref01_Pow.l0] at h
 | k + 1 => by
  have ih0 := galoisref01_Pow.mono_l k
  ·intro y0 y1 y2
   unfold galoisref01_Pow.l0
   exact galoisref01_Pow.U1
theorem galoisref01_Pow.mono : ∀ a0 a1 k, LeO (galoisref01_Pow.f k a0 a1) (galoisref01_Pow.f (k + 1) a0 a1) := by
 intro a0 a1 k
 have ih0 := galoisref01_Pow.mono_l k
 unfold galoisref01_Pow.f
 exact galoisref01_Pow.U1
theorem galoisref01_Pow.M1 {g : Prop} (h : g := by
 have H' := Aside0.mk H
 clear H
 go_wp2_with (first | ((with_reducible refine gate_callee (f := 42) rfl ?_); refine goesL_ (some 14) rfl rfl Try.func42 (by kernel_rfl) rfl #[.string x5_1, .string x0_1] rfl ZA ?_; (with_reducible refine (galoisref01_Mul.calls k1 x5_1 x0_1 t547 _ A7.out).mono ?_); rintro e w9001 ⟨rfl, hb⟩; refine ⟨_, rfl, ?_⟩; replace HB := Aside0.mk (below_step ZB hb); (try clear hb)) | ((with_reducible refine gate_callee (f := 42) rfl ?_); refine goesL_ (some 17) rfl rfl Try.func42 (by kernel_rfl) rfl #[.string x0_1, .string x0_1] rfl ZA ?_; (with_reducible refine (galoisref01_Mul.calls k1 x0_1 x0_1 t548 _ A8.out).mono ?_); rintro e w9002 ⟨rfl, hb⟩; refine ⟨_, rfl, ?_⟩; replace HB := Aside0.mk (below_step ZB hb); (try clear hb)) | ((with_reducible refine gate_callee (f := 42) rfl ?_); refine goesL_ (some 17) rfl rfl Try.func42 (by kernel_rfl) rfl #[.string x0_1, .string x0_1] rfl ZA ?_; (with_reducible refine (galoisref01_Mul.calls k1 x0_1 x0_1 t549 _ A11.out).mono ?_); rintro e w9003 ⟨rfl, hb⟩; refine ⟨_, rfl, ?_⟩; replace HB := Aside0.mk (below_step ZB hb); (try clear hb)))
 go_roundg k1
 case measure => have := HK1.out; omega
 case rel => exact ⟨_, _, _, ZS, ZS, ZS, H', ⟨by have := HK1.out; omega⟩, ⟨ZB⟩⟩) : g := h
set_option maxHeartbeats 8000000 in
set_option maxRecDepth 100000 in
theorem galoisref01_Pow.calls (k : Nat) (a0 : ByteArray) (a1 : Int) (r : ByteArray) (w : World) (h : galoisref01_Pow.f k a0 a1 = some r) :
  Calls Try.prog 61 #[.string a0, .int .i64 a1] w fun e w' => e = .returned (.string r) ∧ Below w.heap.size w w' := by
 have HB := Aside0.mk (Below.refl w.heap.size w)
 have H := h
 unfold galoisref01_Pow.f at H
 clear h
 obtain ⟨t546, A3, H⟩ := ZO H
 have H' := Aside0.mk H
 clear H
 go_enter Try.func61, Try.ntmps61
 go_wp2_with (first | ((with_reducible refine gate_callee (f := 33) rfl ?_); refine goesL_ (some 6) rfl rfl Try.func33 (by kernel_rfl) rfl #[.int .u64 1] rfl ZA ?_; (with_reducible refine (galoisref01_Of.calls k 1 t546 _ A3.out).mono ?_); rintro e w4 ⟨rfl, hb⟩; refine ⟨_, rfl, ?_⟩; replace HB := Aside0.mk (below_step ZB hb); (try clear hb)))
 go_loopg [0, 1, 5] k (fun kq v0 v1 v5 w' => ∃ (x0_1 : ByteArray) (x1_1 : Int) (x5_1 : ByteArray), v0 = .string x0_1 ∧ v1 = .int .i64 x1_1 ∧ v5 = .string x5_1 ∧ Aside0 (galoisref01_Pow.l0 kq x0_1 x1_1 x5_1 = some r) ∧ Aside0 (kq ≤ k) ∧ Aside0 (Below w.heap.size w w'))
 case atStart => exact ⟨(a0), (a1), (t546), ZS, ZS, ZS, H', ⟨Nat.le_refl _⟩, ⟨ZB⟩⟩
 case round =>
  clear H'
  obtain ⟨x0_1, x1_1, x5_1, rfl, rfl, rfl, HA, HK1, HB⟩ := hrel
  cases gk with
  | zero => exact absurd HA.out (by simp [galoisref01_Pow.l0])
  | succ k1 =>
   have H := HA.out
   clear HA
   simp only [galoisref01_Pow.l0] at H
   by_cases c5 : x1_1 > 0
   ·rw [if_pos c5] at H
    have c5b0 : decide (0 < x1_1) = true := decide_eq_true c5
    clear c5
    by_cases c6 : (Int.tmod x1_1 2) = 1
    ·rw [if_pos c6] at H
     have c6b0 : ((Int.tmod x1_1 2) == 1) = true := beq_iff_eq.mpr c6
     have c6b1 : ((Int.tmod x1_1 2) != 1) = false := bne_eq_false_iff_eq.mpr c6
     clear c6
     obtain ⟨t547, A7, H⟩ := ZO H
     obtain ⟨t548, A8, H⟩ := ZO H
     exact galoisref01_Pow.M1
    ·rw [if_neg c6] at H
     have c6b0 : ((Int.tmod x1_1 2) == 1) = false := beq_eq_false_iff_ne.mpr c6
     have c6b1 : ((Int.tmod x1_1 2) != 1) = true := bne_iff_ne.mpr c6
     obtain ⟨t549, A11, H⟩ := ZO H
     exact galoisref01_Pow.M1
   ·rw [if_neg c5] at H
    have c5b0 : decide (0 < x1_1) = false := decide_eq_false c5
    clear c5
    obtain rfl := Option.some.inj H
    go_wp2
    go_ret
    exact ⟨ZE, ZB⟩
def galoisref01_Root.l0 : Nat → ByteArray → Int → ByteArray → Option (ByteArray)
 | 0, _, _, _ => none
 | k + 1, x0, x1, x5 => (galoisref01_Pow.f k x5 (wrap64 (x1 - 1))).bind fun t552 => ((galoisref01_DivMod.f k x0 t552).bind fun bt553 => ((galoisref01_FromInt.f k (wrap64 (x1 - 1))).bind fun t555 => ((galoisref01_Mul.f k t555 x5).bind fun t556 => ((galoisref01_Add.f k t556 bt553.1).bind fun t557 => ((galoisref01_FromInt.f k x1).bind fun t558 => ((galoisref01_DivMod.f k t557 t558).bind fun bt559 => ((galoisref01_Compare.f k bt559.1 x5).bind fun t561 => (if t561 ≥ 0 then (some x5) else (galoisref01_Root.l0 k x0 x1 bt559.1)))))))))
def galoisref01_Root.f (k : Nat) (a0 : ByteArray) (a1 : Int) : Option (ByteArray) := if a0.toList = ([] : List UInt8) then (some (⟨#[]⟩ : ByteArray)) else ((galoisref01_Bits.f k a0).bind fun t550 => (if a1 = 0 then (none) else ((galoisref01_TwoTo.f (wrap64 (Int.tdiv (wrap64 ((wrap64 (t550 + a1)) - 1)) a1))).bind fun t551 => (galoisref01_Root.l0 k a0 a1 t551))))
theorem galoisref01_Root.U1 {g : Prop} (h : g := by
 repeat' first
 | (with_reducible exact ih0 _ _ _)
 | (with_reducible exact galoisref01_Add.mono _ _ _)
 | (with_reducible exact galoisref01_Bits.mono _ _)
 | (with_reducible exact galoisref01_Compare.mono _ _ _)
 | (with_reducible exact galoisref01_DivMod.mono _ _ _)
 | (with_reducible exact galoisref01_FromInt.mono _ _)
 | (with_reducible exact galoisref01_Mul.mono _ _ _)
 | (with_reducible exact galoisref01_Pow.mono _ _ _)
 | (with_reducible exact LeO.refl _)
 | (with_reducible exact LeO.none _)
 | (with_reducible refine LeO.ite ?_ ?_)
 | (with_reducible refine LeO.bind ?_ (fun _ => ?_))) : g := h
theorem galoisref01_Root.mono_l : ∀ k, (∀ y0 y1 y2, LeO (galoisref01_Root.l0 k y0 y1 y2) (galoisref01_Root.l0 (k + 1) y0 y1 y2))
 | 0 => fun _ _ _ r h => by simp [galoisref01_Root.l0] at h
 | k + 1 => by
  have ih0 := galoisref01_Root.mono_l k
  ·intro y0 y1 y2
   unfold galoisref01_Root.l0
   exact galoisref01_Root.U1
theorem galoisref01_Root.mono : ∀ a0 a1 k, LeO (galoisref01_Root.f k a0 a1) (galoisref01_Root.f (k + 1) a0 a1) := by
 intro a0 a1 k
 have ih0 := galoisref01_Root.mono_l k
 unfold galoisref01_Root.f
 exact galoisref01_Root.U1
set_option maxHeartbeats 8000000 in
set_option maxRecDepth 100000 in
theorem galoisref01_Root.calls (k : Nat) (a0 : ByteArray) (a1 : Int) (r : ByteArray) (w : World) (h : galoisref01_Root.f k a0 a1 = some r) :
  Calls Try.prog 29 #[.string a0, .int .i64 a1] w fun e w' => e = .returned (.string r) ∧ Below w.heap.size w w' := by
 have HB := Aside0.mk (Below.refl w.heap.size w)
 have H := h
 unfold galoisref01_Root.f at H
 clear h
 by_cases c3 : a0.toList = ([] : List UInt8)
 ·rw [if_pos c3] at H
  have c3b0 : (a0.toList == ([] : List UInt8)) = true := beq_iff_eq.mpr c3
  have c3b1 : (a0.toList != ([] : List UInt8)) = false := bne_eq_false_iff_eq.mpr c3
  clear c3
  obtain rfl := Option.some.inj H
  go_enter Try.func29, Try.ntmps29
  go_wp2
  go_ret
  exact ⟨ZE, ZB⟩
 ·rw [if_neg c3] at H
  have c3b0 : (a0.toList == ([] : List UInt8)) = false := beq_eq_false_iff_ne.mpr c3
  have c3b1 : (a0.toList != ([] : List UInt8)) = true := bne_iff_ne.mpr c3
  obtain ⟨t550, A4, H⟩ := ZO H
  obtain ⟨c5, H⟩ := ZJ H
  have c5b0 : (a1 == 0) = false := beq_eq_false_iff_ne.mpr c5
  have c5b1 : (a1 != 0) = true := bne_iff_ne.mpr c5
  obtain ⟨t551, A6, H⟩ := ZO H
  have H' := Aside0.mk H
  clear H
  go_enter Try.func29, Try.ntmps29
  go_wp2_with (first | ((with_reducible refine gate_callee (f := 26) rfl ?_); refine goesL_ (some 13) rfl rfl Try.func26 (by kernel_rfl) rfl #[.string a0] rfl ZA ?_; (with_reducible refine (galoisref01_Bits.calls k a0 t550 _ A4.out).mono ?_); rintro e w' ⟨rfl, ⟨nd, rfl⟩⟩; refine ⟨_, rfl, ?_⟩) | ((with_reducible refine gate_callee (f := 60) rfl ?_); refine goesL_ (some 19) rfl rfl Try.func60 (by kernel_rfl) rfl #[.int .i64 (wrap64 (Int.tdiv (wrap64 ((wrap64 (t550 + a1)) - 1)) a1))] rfl ZA ?_; (with_reducible refine (galoisref01_TwoTo.calls (wrap64 (Int.tdiv (wrap64 ((wrap64 (t550 + a1)) - 1)) a1)) t551 _ A6.out).mono ?_); rintro e w7 ⟨rfl, hb⟩; refine ⟨_, rfl, ?_⟩; replace HB := Aside0.mk (below_step ZB hb); (try clear hb)))
  go_loopg [5] k (fun kq v5 w' => ∃ (x5_1 : ByteArray), v5 = .string x5_1 ∧ Aside0 (galoisref01_Root.l0 kq a0 a1 x5_1 = some r) ∧ Aside0 (kq ≤ k) ∧ Aside0 (Below w.heap.size w w'))
  case atStart => exact ⟨(t551), ZS, H', ⟨Nat.le_refl _⟩, ⟨ZB⟩⟩
  case round =>
   clear H'
   try clear c3
   try clear c3b0
   try clear c3b1
   try clear c5
   try clear c5b0
   try clear c5b1
   obtain ⟨x5_1, rfl, HA, HK1, HB⟩ := hrel
   cases gk with
   | zero => exact absurd HA.out (by simp [galoisref01_Root.l0])
   | succ k1 =>
    have H := HA.out
    clear HA
    simp only [galoisref01_Root.l0] at H
    obtain ⟨t552, A8, H⟩ := ZO H
    obtain ⟨⟨t553, t554⟩, A9, H⟩ := ZO H
    (try dsimp only at H)
    obtain ⟨t555, A10, H⟩ := ZO H
    obtain ⟨t556, A11, H⟩ := ZO H
    obtain ⟨t557, A12, H⟩ := ZO H
    obtain ⟨t558, A13, H⟩ := ZO H
    obtain ⟨⟨t559, t560⟩, A14, H⟩ := ZO H
    (try dsimp only at H)
    obtain ⟨t561, A15, H⟩ := ZO H
    by_cases c16 : t561 ≥ 0
    ·rw [if_pos c16] at H
     have c16b0 : decide (0 ≤ t561) = true := decide_eq_true c16
     clear c16
     obtain rfl := Option.some.inj H
     go_wp2_with (first | ((with_reducible refine gate_callee (f := 61) rfl ?_); refine goesL_ (some 25) rfl rfl Try.func61 (by kernel_rfl) rfl #[.string x5_1, .int .i64 (wrap64 (a1 - 1))] rfl ZA ?_; (with_reducible refine (galoisref01_Pow.calls k1 x5_1 (wrap64 (a1 - 1)) t552 _ A8.out).mono ?_); rintro e w17 ⟨rfl, hb⟩; refine ⟨_, rfl, ?_⟩; replace HB := Aside0.mk (below_step ZB hb); (try clear hb)) | ((with_reducible refine gate_callee (f := 18) rfl ?_); refine goesL_ (some 26) rfl rfl Try.func18 (by kernel_rfl) rfl #[.string a0, .string t552] rfl ZA ?_; (with_reducible refine (galoisref01_DivMod.calls k1 a0 t552 t553 t554 _ A9.out).mono ?_); rintro e w18 ⟨rfl, hb⟩; refine ⟨_, rfl, ?_⟩; replace HB := Aside0.mk (below_step ZB hb); (try clear hb)) | ((with_reducible refine gate_callee (f := 59) rfl ?_); refine goesL_ (some 32) rfl rfl Try.func59 (by kernel_rfl) rfl #[.int .i64 (wrap64 (a1 - 1))] rfl ZA ?_; (with_reducible refine (galoisref01_FromInt.calls k1 (wrap64 (a1 - 1)) t555 _ A10.out).mono ?_); rintro e w19 ⟨rfl, hb⟩; refine ⟨_, rfl, ?_⟩; replace HB := Aside0.mk (below_step ZB hb); (try clear hb)) | ((with_reducible refine gate_callee (f := 42) rfl ?_); refine goesL_ (some 34) rfl rfl Try.func42 (by kernel_rfl) rfl #[.string t555, .string x5_1] rfl ZA ?_; (with_reducible refine (galoisref01_Mul.calls k1 t555 x5_1 t556 _ A11.out).mono ?_); rintro e w20 ⟨rfl, hb⟩; refine ⟨_, rfl, ?_⟩; replace HB := Aside0.mk (below_step ZB hb); (try clear hb)) | ((with_reducible refine gate_callee (f := 40) rfl ?_); refine goesL_ (some 36) rfl rfl Try.func40 (by kernel_rfl) rfl #[.string t556, .string t553] rfl ZA ?_; (with_reducible refine (galoisref01_Add.calls k1 t556 t553 t557 _ A12.out).mono ?_); rintro e w21 ⟨rfl, hb⟩; refine ⟨_, rfl, ?_⟩; replace HB := Aside0.mk (below_step ZB hb); (try clear hb)) | ((with_reducible refine gate_callee (f := 59) rfl ?_); refine goesL_ (some 38) rfl rfl Try.func59 (by kernel_rfl) rfl #[.int .i64 a1] rfl ZA ?_; (with_reducible refine (galoisref01_FromInt.calls k1 a1 t558 _ A13.out).mono ?_); rintro e w22 ⟨rfl, hb⟩; refine ⟨_, rfl, ?_⟩; replace HB := Aside0.mk (below_step ZB hb); (try clear hb)) | ((with_reducible refine gate_callee (f := 18) rfl ?_); refine goesL_ (some 39) rfl rfl Try.func18 (by kernel_rfl) rfl #[.string t557, .string t558] rfl ZA ?_; (with_reducible refine (galoisref01_DivMod.calls k1 t557 t558 t559 t560 _ A14.out).mono ?_); rintro e w23 ⟨rfl, hb⟩; refine ⟨_, rfl, ?_⟩; replace HB := Aside0.mk (below_step ZB hb); (try clear hb)) | ((with_reducible refine gate_callee (f := 39) rfl ?_); refine goesL_ (some 44) rfl rfl Try.func39 (by kernel_rfl) rfl #[.string t559, .string x5_1] rfl ZA ?_; (with_reducible refine (galoisref01_Compare.calls k1 t559 x5_1 t561 _ A15.out).mono ?_); rintro e w' ⟨rfl, ⟨nd, rfl⟩⟩; refine ⟨_, rfl, ?_⟩))
     go_ret
     exact ⟨ZE, ZB⟩
    ·rw [if_neg c16] at H
     have c16b0 : decide (0 ≤ t561) = false := decide_eq_false c16
     clear c16
     have H' := Aside0.mk H
     clear H
     go_wp2_with (first | ((with_reducible refine gate_callee (f := 61) rfl ?_); refine goesL_ (some 25) rfl rfl Try.func61 (by kernel_rfl) rfl #[.string x5_1, .int .i64 (wrap64 (a1 - 1))] rfl ZA ?_; (with_reducible refine (galoisref01_Pow.calls k1 x5_1 (wrap64 (a1 - 1)) t552 _ A8.out).mono ?_); rintro e w24 ⟨rfl, hb⟩; refine ⟨_, rfl, ?_⟩; replace HB := Aside0.mk (below_step ZB hb); (try clear hb)) | ((with_reducible refine gate_callee (f := 18) rfl ?_); refine goesL_ (some 26) rfl rfl Try.func18 (by kernel_rfl) rfl #[.string a0, .string t552] rfl ZA ?_; (with_reducible refine (galoisref01_DivMod.calls k1 a0 t552 t553 t554 _ A9.out).mono ?_); rintro e w25 ⟨rfl, hb⟩; refine ⟨_, rfl, ?_⟩; replace HB := Aside0.mk (below_step ZB hb); (try clear hb)) | ((with_reducible refine gate_callee (f := 59) rfl ?_); refine goesL_ (some 32) rfl rfl Try.func59 (by kernel_rfl) rfl #[.int .i64 (wrap64 (a1 - 1))] rfl ZA ?_; (with_reducible refine (galoisref01_FromInt.calls k1 (wrap64 (a1 - 1)) t555 _ A10.out).mono ?_); rintro e w26 ⟨rfl, hb⟩; refine ⟨_, rfl, ?_⟩; replace HB := Aside0.mk (below_step ZB hb); (try clear hb)) | ((with_reducible refine gate_callee (f := 42) rfl ?_); refine goesL_ (some 34) rfl rfl Try.func42 (by kernel_rfl) rfl #[.string t555, .string x5_1] rfl ZA ?_; (with_reducible refine (galoisref01_Mul.calls k1 t555 x5_1 t556 _ A11.out).mono ?_); rintro e w27 ⟨rfl, hb⟩; refine ⟨_, rfl, ?_⟩; replace HB := Aside0.mk (below_step ZB hb); (try clear hb)) | ((with_reducible refine gate_callee (f := 40) rfl ?_); refine goesL_ (some 36) rfl rfl Try.func40 (by kernel_rfl) rfl #[.string t556, .string t553] rfl ZA ?_; (with_reducible refine (galoisref01_Add.calls k1 t556 t553 t557 _ A12.out).mono ?_); rintro e w28 ⟨rfl, hb⟩; refine ⟨_, rfl, ?_⟩; replace HB := Aside0.mk (below_step ZB hb); (try clear hb)) | ((with_reducible refine gate_callee (f := 59) rfl ?_); refine goesL_ (some 38) rfl rfl Try.func59 (by kernel_rfl) rfl #[.int .i64 a1] rfl ZA ?_; (with_reducible refine (galoisref01_FromInt.calls k1 a1 t558 _ A13.out).mono ?_); rintro e w29 ⟨rfl, hb⟩; refine ⟨_, rfl, ?_⟩; replace HB := Aside0.mk (below_step ZB hb); (try clear hb)) | ((with_reducible refine gate_callee (f := 18) rfl ?_); refine goesL_ (some 39) rfl rfl Try.func18 (by kernel_rfl) rfl #[.string t557, .string t558] rfl ZA ?_; (with_reducible refine (galoisref01_DivMod.calls k1 t557 t558 t559 t560 _ A14.out).mono ?_); rintro e w30 ⟨rfl, hb⟩; refine ⟨_, rfl, ?_⟩; replace HB := Aside0.mk (below_step ZB hb); (try clear hb)) | ((with_reducible refine gate_callee (f := 39) rfl ?_); refine goesL_ (some 44) rfl rfl Try.func39 (by kernel_rfl) rfl #[.string t559, .string x5_1] rfl ZA ?_; (with_reducible refine (galoisref01_Compare.calls k1 t559 x5_1 t561 _ A15.out).mono ?_); rintro e w' ⟨rfl, ⟨nd, rfl⟩⟩; refine ⟨_, rfl, ?_⟩))
     go_roundg k1
     case measure => have := HK1.out; omega
     case rel => exact ⟨(t559), ZS, H', ⟨by have := HK1.out; omega⟩, ⟨ZB⟩⟩
def galoisref01_Sqrt.f (k : Nat) (a0 : ByteArray) : Option (ByteArray) := (galoisref01_Root.f k a0 2).bind fun t562 => (some t562)
theorem galoisref01_Sqrt.mono : ∀ a0 k, LeO (galoisref01_Sqrt.f k a0) (galoisref01_Sqrt.f (k + 1) a0) := by
 intro a0 k
 unfold galoisref01_Sqrt.f
 repeat' first
   | (with_reducible exact galoisref01_Root.mono _ _ _)
   | (with_reducible exact LeO.refl _)
   | (with_reducible exact LeO.none _)
   | (with_reducible refine LeO.ite ?_ ?_)
   | (with_reducible refine LeO.bind ?_ (fun _ => ?_))
set_option maxHeartbeats 8000000 in
set_option maxRecDepth 100000 in
theorem galoisref01_Sqrt.calls (k : Nat) (a0 : ByteArray) (r : ByteArray) (w : World) (h : galoisref01_Sqrt.f k a0 = some r) :
  Calls Try.prog 25 #[.string a0] w fun e w' => e = .returned (.string r) ∧ Below w.heap.size w w' := by
 have HB := Aside0.mk (Below.refl w.heap.size w)
 have H := h
 unfold galoisref01_Sqrt.f at H
 clear h
 obtain ⟨t562, A2, H⟩ := ZO H
 obtain rfl := Option.some.inj H
 go_enter Try.func25, Try.ntmps25
 go_wp2_with (first | ((with_reducible refine gate_callee (f := 29) rfl ?_); refine goesL_ (some 4) rfl rfl Try.func29 (by kernel_rfl) rfl #[.string a0, .int .i64 2] rfl ZA ?_; (with_reducible refine (galoisref01_Root.calls k a0 2 t562 _ A2.out).mono ?_); rintro e w3 ⟨rfl, hb⟩; refine ⟨_, rfl, ?_⟩; replace HB := Aside0.mk (below_step ZB hb); (try clear hb)))
 go_ret
 exact ⟨ZE, ZB⟩
mutual
def galoisref01_PowWithin.l0 : Nat → ByteArray → Int → Int → ByteArray → Int → Option (ByteArray × Bool)
 | 0, _, _, _, _, _ => none
 | k + 1, x0, x1, x2, x8, x9 => if x9 < x1 then (galoisref01_PowWithin.j1 k x0 x1 x2 x8 x9 (x0.toList != ([1] : List UInt8))) else (galoisref01_PowWithin.j1 k x0 x1 x2 x8 x9 false)
def galoisref01_PowWithin.j1 : Nat → ByteArray → Int → Int → ByteArray → Int → Bool → Option (ByteArray × Bool)
 | 0, _, _, _, _, _, _ => none
 | k + 1, x0, x1, x2, x8, x9, x17 => if x17 = true then ((galoisref01_Mul.f k x8 x0).bind fun t564 => (if (t564.size : Int) > x2 then (some ((⟨#[]⟩ : ByteArray), false)) else (if t564.toList = ([] : List UInt8) then (some ((⟨#[]⟩ : ByteArray), true)) else (galoisref01_PowWithin.l0 k x0 x1 x2 t564 (wrap64 (x9 + 1)))))) else (some (x8, decide ((x8.size : Int) ≤ x2)))
end
def galoisref01_PowWithin.f (k : Nat) (a0 : ByteArray) (a1 : Int) (a2 : Int) : Option (ByteArray × Bool) := (galoisref01_Of.f k 1).bind fun t563 => (galoisref01_PowWithin.l0 k a0 a1 a2 t563 0)
theorem galoisref01_PowWithin.U1 {g : Prop} (h : g := by
 repeat' first
 | (with_reducible exact ih0 _ _ _ _ _)
 | (with_reducible exact ih1 _ _ _ _ _ _)
 | (with_reducible exact galoisref01_Mul.mono _ _ _)
 | (with_reducible exact galoisref01_Of.mono _ _)
 | (with_reducible exact LeO.refl _)
 | (with_reducible exact LeO.none _)
 | (with_reducible refine LeO.ite ?_ ?_)
 | (with_reducible refine LeO.bind ?_ (fun _ => ?_))) : g := h
theorem galoisref01_PowWithin.mono_l : ∀ k, (∀ y0 y1 y2 y3 y4, LeO (galoisref01_PowWithin.l0 k y0 y1 y2 y3 y4) (galoisref01_PowWithin.l0 (k + 1) y0 y1 y2 y3 y4)) ∧ (∀ y0 y1 y2 y3 y4 y5, LeO (galoisref01_PowWithin.j1 k y0 y1 y2 y3 y4 y5) (galoisref01_PowWithin.j1 (k + 1) y0 y1 y2 y3 y4 y5))
 | 0 => ⟨fun _ _ _ _ _ r h => by simp [galoisref01_PowWithin.l0] at h, fun _ _ _ _ _ _ r h => by simp [galoisref01_PowWithin.j1] at h⟩
 | k + 1 => by
  obtain ⟨ih0, ih1⟩ := galoisref01_PowWithin.mono_l k
  refine ⟨?_, ?_⟩
  ·intro y0 y1 y2 y3 y4
   unfold galoisref01_PowWithin.l0
   exact galoisref01_PowWithin.U1
  ·intro y0 y1 y2 y3 y4 y5
   unfold galoisref01_PowWithin.j1
   exact galoisref01_PowWithin.U1
theorem galoisref01_PowWithin.mono : ∀ a0 a1 a2 k, LeO (galoisref01_PowWithin.f k a0 a1 a2) (galoisref01_PowWithin.f (k + 1) a0 a1 a2) := by
 intro a0 a1 a2 k
 obtain ⟨ih0, ih1⟩ := galoisref01_PowWithin.mono_l k
 unfold galoisref01_PowWithin.f
 exact galoisref01_PowWithin.U1
theorem galoisref01_PowWithin.M1 {g : Prop} (h : g := by
 have H' := Aside0.mk H
 clear H
 go_wp2
 go_meet
 case rel => exact ⟨_, _, ZS, H', ⟨by have := HK1.out; first | omega | exact Nat.le_refl _⟩, ⟨ZB⟩⟩) : g := h
theorem galoisref01_PowWithin.M2 {g : Prop} (h : g := by
 go_wp2_with (first | ((with_reducible refine gate_callee (f := 42) rfl ?_); refine goesL_ (some 22) rfl rfl Try.func42 (by kernel_rfl) rfl #[.string x8_1, .string a0] rfl ZA ?_; (with_reducible refine (galoisref01_Mul.calls kj5 x8_1 a0 t564 _ A9.out).mono ?_); rintro e w9001 ⟨rfl, hb⟩; refine ⟨_, rfl, ?_⟩; replace HB := Aside0.mk (below_step ZB hb); (try clear hb)))
 go_ret2
 exact ⟨ZE, ZB⟩) : g := h
set_option maxHeartbeats 8000000 in
set_option maxRecDepth 100000 in
theorem galoisref01_PowWithin.calls (k : Nat) (a0 : ByteArray) (a1 : Int) (a2 : Int) (r1 : ByteArray) (r2 : Bool) (w : World) (h : galoisref01_PowWithin.f k a0 a1 a2 = some (r1, r2)) :
  Calls Try.prog 28 #[.string a0, .int .i64 a1, .int .i64 a2] w fun e w' => e = .returned (.tuple #[.string r1, .bool r2]) ∧ Below w.heap.size w w' := by
 have HB := Aside0.mk (Below.refl w.heap.size w)
 have H := h
 unfold galoisref01_PowWithin.f at H
 clear h
 obtain ⟨t563, A4, H⟩ := ZO H
 have H' := Aside0.mk H
 clear H
 go_enter Try.func28, Try.ntmps28
 go_wp2_with (first | ((with_reducible refine gate_callee (f := 33) rfl ?_); refine goesL_ (some 10) rfl rfl Try.func33 (by kernel_rfl) rfl #[.int .u64 1] rfl ZA ?_; (with_reducible refine (galoisref01_Of.calls k 1 t563 _ A4.out).mono ?_); rintro e w5 ⟨rfl, hb⟩; refine ⟨_, rfl, ?_⟩; replace HB := Aside0.mk (below_step ZB hb); (try clear hb)))
 go_loopg [8, 9] k (fun kq v8 v9 w' => ∃ (x8_1 : ByteArray) (x9_1 : Int), v8 = .string x8_1 ∧ v9 = .int .i64 x9_1 ∧ Aside0 (galoisref01_PowWithin.l0 kq a0 a1 a2 x8_1 x9_1 = some (r1, r2)) ∧ Aside0 (kq ≤ k) ∧ Aside0 (Below w.heap.size w w'))
 case atStart => exact ⟨(t563), (0), ZS, ZS, H', ⟨Nat.le_refl _⟩, ⟨ZB⟩⟩
 case round =>
  clear H'
  obtain ⟨x8_1, x9_1, rfl, rfl, HA, HK1, HB⟩ := hrel
  cases gk with
  | zero => exact absurd HA.out (by simp [galoisref01_PowWithin.l0])
  | succ k1 =>
   have H := HA.out
   clear HA
   simp only [galoisref01_PowWithin.l0] at H
   have HC6 := Aside0.mk H
   clear H
   go_upto_region 3 with (fail)
   go_cut [17] (fun v17 wc => ∃ (kq : Nat) (x17_5 : Bool), v17 = .bool x17_5 ∧ Aside0 (galoisref01_PowWithin.j1 kq a0 a1 a2 x8_1 x9_1 x17_5 = some (r1, r2)) ∧ Aside0 (kq ≤ k1) ∧ Aside0 (Below w.heap.size w wc))
   case first =>
    have H := HC6.out
    clear HC6
    by_cases c7 : x9_1 < a1
    ·rw [if_pos c7] at H
     have c7b0 : decide (x9_1 < a1) = true := decide_eq_true c7
     clear c7
     (first | rw [c7b0] | rw [c7b1] | (simp only [i64_w, i32_w]; rw [c7b0]) | skip)
     exact galoisref01_PowWithin.M1
    ·rw [if_neg c7] at H
     have c7b0 : decide (x9_1 < a1) = false := decide_eq_false c7
     clear c7
     (first | rw [c7b0] | rw [c7b1] | (simp only [i64_w, i32_w]; rw [c7b0]) | skip)
     exact galoisref01_PowWithin.M1
   case rest =>
    clear HC6
    obtain ⟨kq, x17_5, rfl, HA, HJ5, HB⟩ := hcut
    cases kq with
    | zero => exact absurd HA.out (by simp [galoisref01_PowWithin.j1])
    | succ kj5 =>
     have H := HA.out
     clear HA
     simp only [galoisref01_PowWithin.j1] at H
     by_cases c8 : x17_5 = true
     ·subst c8
      rw [if_pos rfl] at H
      obtain ⟨t564, A9, H⟩ := ZO H
      by_cases c10 : (t564.size : Int) > a2
      ·rw [if_pos c10] at H
       have c10b0 : decide (a2 < (t564.size : Int)) = true := decide_eq_true c10
       clear c10
       simp only [Option.some.injEq, Prod.mk.injEq] at H
       obtain ⟨rfl, rfl⟩ := H
       exact galoisref01_PowWithin.M2
      ·rw [if_neg c10] at H
       have c10b0 : decide (a2 < (t564.size : Int)) = false := decide_eq_false c10
       clear c10
       by_cases c12 : t564.toList = ([] : List UInt8)
       ·rw [if_pos c12] at H
        have c12b0 : (t564.toList == ([] : List UInt8)) = true := beq_iff_eq.mpr c12
        have c12b1 : (t564.toList != ([] : List UInt8)) = false := bne_eq_false_iff_eq.mpr c12
        clear c12
        simp only [Option.some.injEq, Prod.mk.injEq] at H
        obtain ⟨rfl, rfl⟩ := H
        exact galoisref01_PowWithin.M2
       ·rw [if_neg c12] at H
        have c12b0 : (t564.toList == ([] : List UInt8)) = false := beq_eq_false_iff_ne.mpr c12
        have c12b1 : (t564.toList != ([] : List UInt8)) = true := bne_iff_ne.mpr c12
        have H' := Aside0.mk H
        clear H
        go_wp2_with (first | ((with_reducible refine gate_callee (f := 42) rfl ?_); refine goesL_ (some 22) rfl rfl Try.func42 (by kernel_rfl) rfl #[.string x8_1, .string a0] rfl ZA ?_; (with_reducible refine (galoisref01_Mul.calls kj5 x8_1 a0 t564 _ A9.out).mono ?_); rintro e w14 ⟨rfl, hb⟩; refine ⟨_, rfl, ?_⟩; replace HB := Aside0.mk (below_step ZB hb); (try clear hb)))
        go_roundg kj5
        case measure => have := HK1.out; have := HJ5.out; omega
        case rel => exact ⟨(t564), (wrap64 (x9_1 + 1)), ZS, ZS, H', ⟨by have := HK1.out; have := HJ5.out; omega⟩, ⟨ZB⟩⟩
     ·replace c8 := Bool.eq_false_iff.mpr c8
      subst c8
      rw [if_neg Bool.false_ne_true] at H
      simp only [Option.some.injEq, Prod.mk.injEq] at H
      obtain ⟨rfl, rfl⟩ := H
      go_wp2
      go_ret2
      exact ⟨ZE, ZB⟩
end Go.Proofs.Ytohkmnbnjacfaaa.All
namespace Go.Proofs.Ytohkmnbnjacfaaa.All
open Go.Proofs.YtohkmnbnjacfaaaX
open Go.RowKit Go.Proofs.YtohkmnbnjacfaaaW.PrintWords Go.Proofs.YtohkmnbnjacfaaaW.PrintLast Go.Proofs.YtohkmnbnjacfaaaW.PrintMore
attribute [local go_sem] max2_int min2_int max_two min_two max_three min_three max_four min_four
set_option linter.unusedVariables false
set_option linter.unusedSimpArgs false
mutual
def galoislaw01_NaturalPowers.j0 : Nat → ByteArray → Int → Bool → Option (Bool)
 | 0, _, _, _ => none
 | k + 1, x0, x1, x23 => if x23 = true then ((galoislaw01_awake.f k).bind fun t566 => (some t566)) else ((natural_Pow.f k x0 x1).bind fun bt567 => ((natural_Root.f k x0 x1).bind fun bt569 => ((natural_Sqrt.f k x0).bind fun bt571 => ((natural_Bits.f k x0).bind fun bt573 => ((galoisref01_Check.f x0).bind fun t575 => (if t575 = 0 then ((galoisref01_Sqrt.f k x0).bind fun t579 => ((galoislaw01_right.f bt571.1 bt571.2 0 t579).bind fun t580 => (if t580 = true then ((galoisref01_Bits.f k x0).bind fun t581 => (if bt573.1 = t581 then (galoislaw01_NaturalPowers.j1 k x0 x1 bt567.1 bt567.2 bt569.1 bt569.2 (bt573.2 != 0)) else (galoislaw01_NaturalPowers.j1 k x0 x1 bt567.1 bt567.2 bt569.1 bt569.2 true))) else (galoislaw01_NaturalPowers.j1 k x0 x1 bt567.1 bt567.2 bt569.1 bt569.2 true)))) else ((galoislaw01_right.f bt567.1 bt567.2 t575 (⟨#[]⟩ : ByteArray)).bind fun t576 => (if t576 = true then ((galoislaw01_right.f bt569.1 bt569.2 t575 (⟨#[]⟩ : ByteArray)).bind fun t577 => (if t577 = true then ((galoislaw01_right.f bt571.1 bt571.2 t575 (⟨#[]⟩ : ByteArray)).bind fun t578 => (if t578 = true then (if bt573.1 = 0 then (some (bt573.2 == t575)) else (some false)) else (some false))) else (some false))) else (some false)))))))))
def galoislaw01_NaturalPowers.j1 : Nat → ByteArray → Int → ByteArray → Int → ByteArray → Int → Bool → Option (Bool)
 | 0, _, _, _, _, _, _, _ => none
 | k + 1, x0, x1, x5, x6, x7, x8, x91 => if x91 = true then (some false) else (if x1 < 0 then (galoislaw01_NaturalPowers.j2 k x0 x1 x5 x6 x7 x8 true) else (galoislaw01_NaturalPowers.j2 k x0 x1 x5 x6 x7 x8 (decide (x1 > 4096))))
def galoislaw01_NaturalPowers.j2 : Nat → ByteArray → Int → ByteArray → Int → ByteArray → Int → Bool → Option (Bool)
 | 0, _, _, _, _, _, _, _ => none
 | k + 1, x0, x1, x5, x6, x7, x8, x97 => if x97 = true then ((galoislaw01_right.f x5 x6 3 (⟨#[]⟩ : ByteArray)).bind fun t582 => (if t582 = true then ((galoislaw01_right.f x7 x8 3 (⟨#[]⟩ : ByteArray)).bind fun t583 => (some t583)) else (some false))) else (if x1 = 0 then ((galoislaw01_nat.f k 1).bind fun t584 => ((galoislaw01_right.f x5 x6 0 t584).bind fun t585 => (if t585 = true then ((galoislaw01_right.f x7 x8 3 (⟨#[]⟩ : ByteArray)).bind fun t586 => (some t586)) else (some false)))) else ((galoisref01_PowWithin.f k x0 x1 1024).bind fun bt587 => (if bt587.2 = true then ((galoislaw01_right.f x5 x6 0 bt587.1).bind fun t589 => (if t589 = true then ((galoisref01_Root.f k x0 x1).bind fun t590 => ((galoislaw01_right.f x7 x8 0 t590).bind fun t591 => (some t591))) else (some false))) else ((galoislaw01_right.f x5 x6 4 bt587.1).bind fun t592 => (if t592 = true then ((galoisref01_Root.f k x0 x1).bind fun t593 => ((galoislaw01_right.f x7 x8 0 t593).bind fun t594 => (some t594))) else (some false))))))
end
def galoislaw01_NaturalPowers.f (k : Nat) (a0 : ByteArray) (a1 : Int) : Option (Bool) := (galoislaw01_awake.f k).bind fun t565 => (if t565 = true then (galoislaw01_NaturalPowers.j0 k a0 a1 (decide ((a0.size : Int) > 60))) else (galoislaw01_NaturalPowers.j0 k a0 a1 true))
theorem galoislaw01_NaturalPowers.U1 {g : Prop} (h : g := by
 repeat' first
 | (with_reducible exact ih0 _ _ _)
 | (with_reducible exact ih1 _ _ _ _ _ _ _)
 | (with_reducible exact ih2 _ _ _ _ _ _ _)
 | (with_reducible exact galoislaw01_awake.mono _)
 | (with_reducible exact galoislaw01_nat.mono _ _)
 | (with_reducible exact galoisref01_Bits.mono _ _)
 | (with_reducible exact galoisref01_PowWithin.mono _ _ _ _)
 | (with_reducible exact galoisref01_Root.mono _ _ _)
 | (with_reducible exact galoisref01_Sqrt.mono _ _)
 | (with_reducible exact natural_Bits.mono _ _)
 | (with_reducible exact natural_Pow.mono _ _ _)
 | (with_reducible exact natural_Root.mono _ _ _)
 | (with_reducible exact natural_Sqrt.mono _ _)
 | (with_reducible exact LeO.refl _)
 | (with_reducible exact LeO.none _)
 | (with_reducible refine LeO.ite ?_ ?_)
 | (with_reducible refine LeO.bind ?_ (fun _ => ?_))) : g := h
theorem galoislaw01_NaturalPowers.mono_l : ∀ k, (∀ y0 y1 y2, LeO (galoislaw01_NaturalPowers.j0 k y0 y1 y2) (galoislaw01_NaturalPowers.j0 (k + 1) y0 y1 y2)) ∧ (∀ y0 y1 y2 y3 y4 y5 y6, LeO (galoislaw01_NaturalPowers.j1 k y0 y1 y2 y3 y4 y5 y6) (galoislaw01_NaturalPowers.j1 (k + 1) y0 y1 y2 y3 y4 y5 y6)) ∧ (∀ y0 y1 y2 y3 y4 y5 y6, LeO (galoislaw01_NaturalPowers.j2 k y0 y1 y2 y3 y4 y5 y6) (galoislaw01_NaturalPowers.j2 (k + 1) y0 y1 y2 y3 y4 y5 y6))
 | 0 => ⟨fun _ _ _ r h => by simp [galoislaw01_NaturalPowers.j0] at h, fun _ _ _ _ _ _ _ r h => by simp [galoislaw01_NaturalPowers.j1] at h, fun _ _ _ _ _ _ _ r h => by simp [galoislaw01_NaturalPowers.j2] at h⟩
 | k + 1 => by
  obtain ⟨ih0, ih1, ih2⟩ := galoislaw01_NaturalPowers.mono_l k
  refine ⟨?_, ?_, ?_⟩
  ·intro y0 y1 y2
   unfold galoislaw01_NaturalPowers.j0
   exact galoislaw01_NaturalPowers.U1
  ·intro y0 y1 y2 y3 y4 y5 y6
   unfold galoislaw01_NaturalPowers.j1
   exact galoislaw01_NaturalPowers.U1
  ·intro y0 y1 y2 y3 y4 y5 y6
   unfold galoislaw01_NaturalPowers.j2
   exact galoislaw01_NaturalPowers.U1
theorem galoislaw01_NaturalPowers.mono : ∀ a0 a1 k, LeO (galoislaw01_NaturalPowers.f k a0 a1) (galoislaw01_NaturalPowers.f (k + 1) a0 a1) := by
 intro a0 a1 k
 obtain ⟨ih0, ih1, ih2⟩ := galoislaw01_NaturalPowers.mono_l k
 unfold galoislaw01_NaturalPowers.f
 exact galoislaw01_NaturalPowers.U1
theorem galoislaw01_NaturalPowers.M1 {g : Prop} (h : g := by
 have H' := Aside0.mk H
 clear H
 go_wp2_with (first | ((with_reducible refine gate_callee (f := 12) rfl ?_); refine goesL_ (some 17) rfl rfl Try.func12 (by kernel_rfl) rfl #[] rfl ZA ?_; (with_reducible refine (galoislaw01_awake.calls k  _ _ A4.out).mono ?_); rintro e w9001 ⟨rfl, hb⟩; refine ⟨_, rfl, ?_⟩; replace HB := Aside0.mk (below_step ZB hb); (try clear hb)))
 go_meet
 case rel => exact ⟨_, _, ZS, H', ⟨ZN⟩, ⟨ZB⟩⟩) : g := h
theorem galoislaw01_NaturalPowers.M2 {g : Prop} (h : g := by
 go_wp2_with (first | ((with_reducible refine gate_callee (f := 12) rfl ?_); refine goesL_ (some 24) rfl rfl Try.func12 (by kernel_rfl) rfl #[] rfl ZA ?_; (with_reducible refine (galoislaw01_awake.calls kj2  t566 _ A9.out).mono ?_); rintro e w9001 ⟨rfl, hb⟩; refine ⟨_, rfl, ?_⟩; replace HB := Aside0.mk (below_step ZB hb); (try clear hb)) | ((with_reducible refine gate_callee (f := 20) rfl ?_); refine goesL_ (some 28) rfl rfl Try.func20 (by kernel_rfl) rfl #[.string a0, .int .i64 a1] rfl ZA ?_; (with_reducible refine (natural_Pow.calls kj2 a0 a1 t567 t568 _ A11.out).mono ?_); rintro e w9002 ⟨rfl, hb⟩; refine ⟨_, rfl, ?_⟩; replace HB := Aside0.mk (below_step ZB hb); (try clear hb)) | ((with_reducible refine gate_callee (f := 21) rfl ?_); refine goesL_ (some 34) rfl rfl Try.func21 (by kernel_rfl) rfl #[.string a0, .int .i64 a1] rfl ZA ?_; (with_reducible refine (natural_Root.calls kj2 a0 a1 t569 t570 _ A12.out).mono ?_); rintro e w9003 ⟨rfl, hb⟩; refine ⟨_, rfl, ?_⟩; replace HB := Aside0.mk (below_step ZB hb); (try clear hb)) | ((with_reducible refine gate_callee (f := 22) rfl ?_); refine goesL_ (some 39) rfl rfl Try.func22 (by kernel_rfl) rfl #[.string a0] rfl ZA ?_; (with_reducible refine (natural_Sqrt.calls kj2 a0 t571 t572 _ A13.out).mono ?_); rintro e w9004 ⟨rfl, hb⟩; refine ⟨_, rfl, ?_⟩; replace HB := Aside0.mk (below_step ZB hb); (try clear hb)) | ((with_reducible refine gate_callee (f := 23) rfl ?_); refine goesL_ (some 44) rfl rfl Try.func23 (by kernel_rfl) rfl #[.string a0] rfl ZA ?_; (with_reducible refine (natural_Bits.calls kj2 a0 t573 t574 _ A14.out).mono ?_); rintro e w9005 ⟨rfl, hb⟩; refine ⟨_, rfl, ?_⟩; replace HB := Aside0.mk (below_step ZB hb); (try clear hb)) | ((with_reducible refine gate_callee (f := 24) rfl ?_); refine goesL_ (some 48) rfl rfl Try.func24 (by kernel_rfl) rfl #[.string a0] rfl ZA ?_; (with_reducible refine (galoisref01_Check.calls a0 t575 _ A15.out).mono ?_); rintro e w' ⟨rfl, ⟨nd, rfl⟩⟩; refine ⟨_, rfl, ?_⟩) | ((with_reducible refine gate_callee (f := 17) rfl ?_); refine goesL_ (some 54) rfl rfl Try.func17 (by kernel_rfl) rfl #[.string t567, .int .i64 t568, .int .i64 t575, .string (⟨#[]⟩ : ByteArray)] rfl ZA ?_; (with_reducible refine (galoislaw01_right.calls t567 t568 t575 (⟨#[]⟩ : ByteArray) true _ A60.out).mono ?_); rintro e w' ⟨rfl, ⟨nd, rfl⟩⟩; refine ⟨_, rfl, ?_⟩) | (go_at_call 17; (with_reducible refine (galoislaw01_right.calls t569 t570 t575 (⟨#[]⟩ : ByteArray) true _ A62.out).mono ?_); rintro e w' ⟨rfl, ⟨nd, rfl⟩⟩) | (go_at_call 17; (with_reducible refine (galoislaw01_right.calls t571 t572 t575 (⟨#[]⟩ : ByteArray) true _ A64.out).mono ?_); rintro e w' ⟨rfl, ⟨nd, rfl⟩⟩) | (go_at_call 17; (with_reducible refine (galoislaw01_right.calls t571 t572 t575 (⟨#[]⟩ : ByteArray) false _ A64.out).mono ?_); rintro e w' ⟨rfl, ⟨nd, rfl⟩⟩) | (go_at_call 17; (with_reducible refine (galoislaw01_right.calls t569 t570 t575 (⟨#[]⟩ : ByteArray) false _ A62.out).mono ?_); rintro e w' ⟨rfl, ⟨nd, rfl⟩⟩))
 go_ret
 exact ⟨ZE, ZB⟩) : g := h
theorem galoislaw01_NaturalPowers.M3 {g : Prop} (h : g := by
 have H' := Aside0.mk H
 clear H
 go_wp2_with (first | ((with_reducible refine gate_callee (f := 25) rfl ?_); refine goesL_ (some 79) rfl rfl Try.func25 (by kernel_rfl) rfl #[.string a0] rfl ZA ?_; (with_reducible refine (galoisref01_Sqrt.calls kj2 a0 t579 _ A22.out).mono ?_); rintro e w9001 ⟨rfl, hb⟩; refine ⟨_, rfl, ?_⟩; replace HB := Aside0.mk (below_step ZB hb); (try clear hb)) | ((with_reducible refine gate_callee (f := 17) rfl ?_); refine goesL_ (some 80) rfl rfl Try.func17 (by kernel_rfl) rfl #[.string t571, .int .i64 t572, .int .i64 0, .string t579] rfl ZA ?_; (with_reducible refine (galoislaw01_right.calls t571 t572 0 t579 _ _ A23.out).mono ?_); rintro e w' ⟨rfl, ⟨nd, rfl⟩⟩; refine ⟨_, rfl, ?_⟩) | (go_at_call 26; (with_reducible refine (galoisref01_Bits.calls kj2 a0 t581 _ A25.out).mono ?_); rintro e w' ⟨rfl, ⟨nd, rfl⟩⟩))
 go_meet
 case rel => exact ⟨_, _, ZS, H', ⟨by have := HJ2.out; first | omega | exact Nat.le_refl _⟩, ⟨ZB⟩⟩) : g := h
theorem galoislaw01_NaturalPowers.M4 {g : Prop} (h : g := by
 have H' := Aside0.mk H
 clear H
 go_wp2
 go_meet
 case rel => exact ⟨_, _, ZS, H', ⟨by have := HJ2.out; have := HJ16.out; first | omega | exact Nat.le_refl _⟩, ⟨ZB⟩⟩) : g := h
theorem galoislaw01_NaturalPowers.M5 {g : Prop} (h : g := by
 go_wp2_with (first | ((with_reducible refine gate_callee (f := 17) rfl ?_); refine goesL_ (some 100) rfl rfl Try.func17 (by kernel_rfl) rfl #[.string t567, .int .i64 t568, .int .i64 3, .string (⟨#[]⟩ : ByteArray)] rfl ZA ?_; (with_reducible refine (galoislaw01_right.calls t567 t568 3 (⟨#[]⟩ : ByteArray) true _ A34.out).mono ?_); rintro e w' ⟨rfl, ⟨nd, rfl⟩⟩; refine ⟨_, rfl, ?_⟩) | (go_at_call 17; (with_reducible refine (galoislaw01_right.calls t569 t570 3 (⟨#[]⟩ : ByteArray) t583 _ A36.out).mono ?_); rintro e w' ⟨rfl, ⟨nd, rfl⟩⟩) | ((with_reducible refine gate_callee (f := 17) rfl ?_); refine goesL_ (some 100) rfl rfl Try.func17 (by kernel_rfl) rfl #[.string t567, .int .i64 t568, .int .i64 3, .string (⟨#[]⟩ : ByteArray)] rfl ZA ?_; (with_reducible refine (galoislaw01_right.calls t567 t568 3 (⟨#[]⟩ : ByteArray) false _ A34.out).mono ?_); rintro e w' ⟨rfl, ⟨nd, rfl⟩⟩; refine ⟨_, rfl, ?_⟩) | ((with_reducible refine gate_callee (f := 27) rfl ?_); refine goesL_ (some 110) rfl rfl Try.func27 (by kernel_rfl) rfl #[.int .i64 1] rfl ZA ?_; (with_reducible refine (galoislaw01_nat.calls kj30 1 t584 _ A38.out).mono ?_); rintro e w9001 ⟨rfl, hb⟩; refine ⟨_, rfl, ?_⟩; replace HB := Aside0.mk (below_step ZB hb); (try clear hb)) | ((with_reducible refine gate_callee (f := 17) rfl ?_); refine goesL_ (some 111) rfl rfl Try.func17 (by kernel_rfl) rfl #[.string t567, .int .i64 t568, .int .i64 0, .string t584] rfl ZA ?_; (with_reducible refine (galoislaw01_right.calls t567 t568 0 t584 _ _ A39.out).mono ?_); rintro e w' ⟨rfl, ⟨nd, rfl⟩⟩; refine ⟨_, rfl, ?_⟩) | (go_at_call 17; (with_reducible refine (galoislaw01_right.calls t569 t570 3 (⟨#[]⟩ : ByteArray) t586 _ A41.out).mono ?_); rintro e w' ⟨rfl, ⟨nd, rfl⟩⟩) | ((with_reducible refine gate_callee (f := 28) rfl ?_); refine goesL_ (some 120) rfl rfl Try.func28 (by kernel_rfl) rfl #[.string a0, .int .i64 a1, .int .i64 1024] rfl ZA ?_; (with_reducible refine (galoisref01_PowWithin.calls kj30 a0 a1 1024 t587 _ _ A44.out).mono ?_); rintro e w9002 ⟨rfl, hb⟩; refine ⟨_, rfl, ?_⟩; replace HB := Aside0.mk (below_step ZB hb); (try clear hb)) | ((with_reducible refine gate_callee (f := 17) rfl ?_); refine goesL_ (some 129) rfl rfl Try.func17 (by kernel_rfl) rfl #[.string t567, .int .i64 t568, .int .i64 0, .string t587] rfl ZA ?_; (with_reducible refine (galoislaw01_right.calls t567 t568 0 t587 _ _ A46.out).mono ?_); rintro e w' ⟨rfl, ⟨nd, rfl⟩⟩; refine ⟨_, rfl, ?_⟩) | (go_at_call 29; (with_reducible refine (galoisref01_Root.calls kj30 a0 a1 t590 _ A48.out).mono ?_); rintro e w9003 ⟨rfl, hb⟩; replace HB := Aside0.mk (below_step ZB hb); (try clear hb)) | (go_at_call 17; (with_reducible refine (galoislaw01_right.calls t569 t570 0 t590 t591 _ A49.out).mono ?_); rintro e w' ⟨rfl, ⟨nd, rfl⟩⟩) | ((with_reducible refine gate_callee (f := 17) rfl ?_); refine goesL_ (some 129) rfl rfl Try.func17 (by kernel_rfl) rfl #[.string t567, .int .i64 t568, .int .i64 4, .string t587] rfl ZA ?_; (with_reducible refine (galoislaw01_right.calls t567 t568 4 t587 _ _ A53.out).mono ?_); rintro e w' ⟨rfl, ⟨nd, rfl⟩⟩; refine ⟨_, rfl, ?_⟩) | (go_at_call 29; (with_reducible refine (galoisref01_Root.calls kj30 a0 a1 t593 _ A55.out).mono ?_); rintro e w9004 ⟨rfl, hb⟩; replace HB := Aside0.mk (below_step ZB hb); (try clear hb)) | (go_at_call 17; (with_reducible refine (galoislaw01_right.calls t569 t570 0 t593 t594 _ A56.out).mono ?_); rintro e w' ⟨rfl, ⟨nd, rfl⟩⟩))
 go_ret
 exact ⟨ZE, ZB⟩) : g := h
set_option maxHeartbeats 8000000 in
set_option maxRecDepth 100000 in
theorem galoislaw01_NaturalPowers.calls (k : Nat) (a0 : ByteArray) (a1 : Int) (r : Bool) (w : World) (h : galoislaw01_NaturalPowers.f k a0 a1 = some r) :
  Calls Try.prog 4 #[.string a0, .int .i64 a1] w fun e w' => e = .returned (.bool r) ∧ Below w.heap.size w w' := by
 have HB := Aside0.mk (Below.refl w.heap.size w)
 have H := h
 unfold galoislaw01_NaturalPowers.f at H
 clear h
 have HC3 := Aside0.mk H
 clear H
 go_enter Try.func4, Try.ntmps4
 go_upto_region 1 with (fail)
 go_cut [23] (fun v23 wc => ∃ (kq : Nat) (x23_2 : Bool), v23 = .bool x23_2 ∧ Aside0 (galoislaw01_NaturalPowers.j0 kq a0 a1 x23_2 = some r) ∧ Aside0 (kq ≤ k) ∧ Aside0 (Below w.heap.size w wc))
 case first =>
  have H := HC3.out
  clear HC3
  obtain ⟨t565, A4, H⟩ := ZO H
  by_cases c5 : t565 = true
  ·subst c5
   rw [if_pos rfl] at H
   exact galoislaw01_NaturalPowers.M1
  ·replace c5 := Bool.eq_false_iff.mpr c5
   subst c5
   rw [if_neg Bool.false_ne_true] at H
   exact galoislaw01_NaturalPowers.M1
 case rest =>
  clear HC3
  obtain ⟨kq, x23_2, rfl, HA, HJ2, HB⟩ := hcut
  cases kq with
  | zero => exact absurd HA.out (by simp [galoislaw01_NaturalPowers.j0])
  | succ kj2 =>
   have H := HA.out
   clear HA
   simp only [galoislaw01_NaturalPowers.j0] at H
   by_cases c8 : x23_2 = true
   ·subst c8
    rw [if_pos rfl] at H
    obtain ⟨t566, A9, H⟩ := ZO H
    obtain rfl := Option.some.inj H
    exact galoislaw01_NaturalPowers.M2
   ·replace c8 := Bool.eq_false_iff.mpr c8
    subst c8
    rw [if_neg Bool.false_ne_true] at H
    obtain ⟨⟨t567, t568⟩, A11, H⟩ := ZO H
    (try dsimp only at H)
    obtain ⟨⟨t569, t570⟩, A12, H⟩ := ZO H
    (try dsimp only at H)
    obtain ⟨⟨t571, t572⟩, A13, H⟩ := ZO H
    (try dsimp only at H)
    obtain ⟨⟨t573, t574⟩, A14, H⟩ := ZO H
    (try dsimp only at H)
    obtain ⟨t575, A15, H⟩ := ZO H
    by_cases c16 : t575 = 0
    ·rw [if_pos c16] at H
     have c16b0 : (t575 == 0) = true := beq_iff_eq.mpr c16
     have c16b1 : (t575 != 0) = false := bne_eq_false_iff_eq.mpr c16
     clear c16
     have HC17 := Aside0.mk H
     clear H
     go_upto_region 10 with (first | ((with_reducible refine gate_callee (f := 20) rfl ?_); refine goesL_ (some 28) rfl rfl Try.func20 (by kernel_rfl) rfl #[.string a0, .int .i64 a1] rfl ZA ?_; (with_reducible refine (natural_Pow.calls kj2 a0 a1 t567 t568 _ A11.out).mono ?_); rintro e w18 ⟨rfl, hb⟩; refine ⟨_, rfl, ?_⟩; replace HB := Aside0.mk (below_step ZB hb); (try clear hb)) | ((with_reducible refine gate_callee (f := 21) rfl ?_); refine goesL_ (some 34) rfl rfl Try.func21 (by kernel_rfl) rfl #[.string a0, .int .i64 a1] rfl ZA ?_; (with_reducible refine (natural_Root.calls kj2 a0 a1 t569 t570 _ A12.out).mono ?_); rintro e w19 ⟨rfl, hb⟩; refine ⟨_, rfl, ?_⟩; replace HB := Aside0.mk (below_step ZB hb); (try clear hb)) | ((with_reducible refine gate_callee (f := 22) rfl ?_); refine goesL_ (some 39) rfl rfl Try.func22 (by kernel_rfl) rfl #[.string a0] rfl ZA ?_; (with_reducible refine (natural_Sqrt.calls kj2 a0 t571 t572 _ A13.out).mono ?_); rintro e w20 ⟨rfl, hb⟩; refine ⟨_, rfl, ?_⟩; replace HB := Aside0.mk (below_step ZB hb); (try clear hb)) | ((with_reducible refine gate_callee (f := 23) rfl ?_); refine goesL_ (some 44) rfl rfl Try.func23 (by kernel_rfl) rfl #[.string a0] rfl ZA ?_; (with_reducible refine (natural_Bits.calls kj2 a0 t573 t574 _ A14.out).mono ?_); rintro e w21 ⟨rfl, hb⟩; refine ⟨_, rfl, ?_⟩; replace HB := Aside0.mk (below_step ZB hb); (try clear hb)) | ((with_reducible refine gate_callee (f := 24) rfl ?_); refine goesL_ (some 48) rfl rfl Try.func24 (by kernel_rfl) rfl #[.string a0] rfl ZA ?_; (with_reducible refine (galoisref01_Check.calls a0 t575 _ A15.out).mono ?_); rintro e w' ⟨rfl, ⟨nd, rfl⟩⟩; refine ⟨_, rfl, ?_⟩))
     (try simp only [Act.put, List.setIfInBounds_toArray, List.set_cons_zero, List.set_cons_succ])
     go_cut [91] (fun v91 wc => ∃ (kq : Nat) (x91_16 : Bool), v91 = .bool x91_16 ∧ Aside0 (galoislaw01_NaturalPowers.j1 kq a0 a1 t567 t568 t569 t570 x91_16 = some r) ∧ Aside0 (kq ≤ kj2) ∧ Aside0 (Below w.heap.size w wc))
     case first =>
      have H := HC17.out
      clear HC17
      obtain ⟨t579, A22, H⟩ := ZO H
      obtain ⟨t580, A23, H⟩ := ZO H
      by_cases c24 : t580 = true
      ·subst c24
       rw [if_pos rfl] at H
       obtain ⟨t581, A25, H⟩ := ZO H
       by_cases c26 : t573 = t581
       ·rw [if_pos c26] at H
        have c26b0 : (t573 == t581) = true := beq_iff_eq.mpr c26
        have c26b1 : (t573 != t581) = false := bne_eq_false_iff_eq.mpr c26
        clear c26
        (first | rw [c26b0] | rw [c26b1] | (simp only [i64_w, i32_w]; rw [c26b0]) | skip)
        exact galoislaw01_NaturalPowers.M3
       ·rw [if_neg c26] at H
        have c26b0 : (t573 == t581) = false := beq_eq_false_iff_ne.mpr c26
        have c26b1 : (t573 != t581) = true := bne_iff_ne.mpr c26
        (first | rw [c26b0] | rw [c26b1] | (simp only [i64_w, i32_w]; rw [c26b0]) | skip)
        exact galoislaw01_NaturalPowers.M3
      ·replace c24 := Bool.eq_false_iff.mpr c24
       subst c24
       rw [if_neg Bool.false_ne_true] at H
       exact galoislaw01_NaturalPowers.M3
     case rest =>
      clear HC17
      try clear c8
      try clear c16
      try clear c16b0
      try clear c16b1
      obtain ⟨kq, x91_16, rfl, HA, HJ16, HB⟩ := hcut
      cases kq with
      | zero => exact absurd HA.out (by simp [galoislaw01_NaturalPowers.j1])
      | succ kj16 =>
       have H := HA.out
       clear HA
       simp only [galoislaw01_NaturalPowers.j1] at H
       by_cases c30 : x91_16 = true
       ·subst c30
        rw [if_pos rfl] at H
        obtain rfl := Option.some.inj H
        go_wp2
        go_ret
        exact ⟨ZE, ZB⟩
       ·replace c30 := Bool.eq_false_iff.mpr c30
        subst c30
        rw [if_neg Bool.false_ne_true] at H
        have HC31 := Aside0.mk H
        clear H
        go_upto_region 12 with (fail)
        go_cut [97] (fun v97 wc => ∃ (kq : Nat) (x97_30 : Bool), v97 = .bool x97_30 ∧ Aside0 (galoislaw01_NaturalPowers.j2 kq a0 a1 t567 t568 t569 t570 x97_30 = some r) ∧ Aside0 (kq ≤ kj16) ∧ Aside0 (Below w.heap.size w wc))
        case first =>
         have H := HC31.out
         clear HC31
         by_cases c32 : a1 < 0
         ·rw [if_pos c32] at H
          have c32b0 : decide (a1 < 0) = true := decide_eq_true c32
          clear c32
          (first | rw [c32b0] | rw [c32b1] | (simp only [i64_w, i32_w]; rw [c32b0]) | skip)
          exact galoislaw01_NaturalPowers.M4
         ·rw [if_neg c32] at H
          have c32b0 : decide (a1 < 0) = false := decide_eq_false c32
          clear c32
          (first | rw [c32b0] | rw [c32b1] | (simp only [i64_w, i32_w]; rw [c32b0]) | skip)
          exact galoislaw01_NaturalPowers.M4
        case rest =>
         clear HC31
         try clear c30
         obtain ⟨kq, x97_30, rfl, HA, HJ30, HB⟩ := hcut
         cases kq with
         | zero => exact absurd HA.out (by simp [galoislaw01_NaturalPowers.j2])
         | succ kj30 =>
          have H := HA.out
          clear HA
          simp only [galoislaw01_NaturalPowers.j2] at H
          by_cases c33 : x97_30 = true
          ·subst c33
           rw [if_pos rfl] at H
           obtain ⟨t582, A34, H⟩ := ZO H
           by_cases c35 : t582 = true
           ·subst c35
            rw [if_pos rfl] at H
            obtain ⟨t583, A36, H⟩ := ZO H
            obtain rfl := Option.some.inj H
            exact galoislaw01_NaturalPowers.M5
           ·replace c35 := Bool.eq_false_iff.mpr c35
            subst c35
            rw [if_neg Bool.false_ne_true] at H
            obtain rfl := Option.some.inj H
            exact galoislaw01_NaturalPowers.M5
          ·replace c33 := Bool.eq_false_iff.mpr c33
           subst c33
           rw [if_neg Bool.false_ne_true] at H
           by_cases c37 : a1 = 0
           ·rw [if_pos c37] at H
            have c37b0 : (a1 == 0) = true := beq_iff_eq.mpr c37
            have c37b1 : (a1 != 0) = false := bne_eq_false_iff_eq.mpr c37
            clear c37
            obtain ⟨t584, A38, H⟩ := ZO H
            obtain ⟨t585, A39, H⟩ := ZO H
            by_cases c40 : t585 = true
            ·subst c40
             rw [if_pos rfl] at H
             obtain ⟨t586, A41, H⟩ := ZO H
             obtain rfl := Option.some.inj H
             exact galoislaw01_NaturalPowers.M5
            ·replace c40 := Bool.eq_false_iff.mpr c40
             subst c40
             rw [if_neg Bool.false_ne_true] at H
             obtain rfl := Option.some.inj H
             exact galoislaw01_NaturalPowers.M5
           ·rw [if_neg c37] at H
            have c37b0 : (a1 == 0) = false := beq_eq_false_iff_ne.mpr c37
            have c37b1 : (a1 != 0) = true := bne_iff_ne.mpr c37
            obtain ⟨⟨t587, t588⟩, A44, H⟩ := ZO H
            (try dsimp only at H)
            by_cases c45 : t588 = true
            ·subst c45
             rw [if_pos rfl] at H
             obtain ⟨t589, A46, H⟩ := ZO H
             by_cases c47 : t589 = true
             ·subst c47
              rw [if_pos rfl] at H
              obtain ⟨t590, A48, H⟩ := ZO H
              obtain ⟨t591, A49, H⟩ := ZO H
              obtain rfl := Option.some.inj H
              exact galoislaw01_NaturalPowers.M5
             ·replace c47 := Bool.eq_false_iff.mpr c47
              subst c47
              rw [if_neg Bool.false_ne_true] at H
              obtain rfl := Option.some.inj H
              exact galoislaw01_NaturalPowers.M5
            ·replace c45 := Bool.eq_false_iff.mpr c45
             subst c45
             rw [if_neg Bool.false_ne_true] at H
             obtain ⟨t592, A53, H⟩ := ZO H
             by_cases c54 : t592 = true
             ·subst c54
              rw [if_pos rfl] at H
              obtain ⟨t593, A55, H⟩ := ZO H
              obtain ⟨t594, A56, H⟩ := ZO H
              obtain rfl := Option.some.inj H
              exact galoislaw01_NaturalPowers.M5
             ·replace c54 := Bool.eq_false_iff.mpr c54
              subst c54
              rw [if_neg Bool.false_ne_true] at H
              obtain rfl := Option.some.inj H
              exact galoislaw01_NaturalPowers.M5
    ·rw [if_neg c16] at H
     have c16b0 : (t575 == 0) = false := beq_eq_false_iff_ne.mpr c16
     have c16b1 : (t575 != 0) = true := bne_iff_ne.mpr c16
     obtain ⟨t576, A60, H⟩ := ZO H
     by_cases c61 : t576 = true
     ·subst c61
      rw [if_pos rfl] at H
      obtain ⟨t577, A62, H⟩ := ZO H
      by_cases c63 : t577 = true
      ·subst c63
       rw [if_pos rfl] at H
       obtain ⟨t578, A64, H⟩ := ZO H
       by_cases c65 : t578 = true
       ·subst c65
        rw [if_pos rfl] at H
        by_cases c66 : t573 = 0
        ·rw [if_pos c66] at H
         have c66b0 : (t573 == 0) = true := beq_iff_eq.mpr c66
         have c66b1 : (t573 != 0) = false := bne_eq_false_iff_eq.mpr c66
         clear c66
         obtain rfl := Option.some.inj H
         exact galoislaw01_NaturalPowers.M2
        ·rw [if_neg c66] at H
         have c66b0 : (t573 == 0) = false := beq_eq_false_iff_ne.mpr c66
         have c66b1 : (t573 != 0) = true := bne_iff_ne.mpr c66
         obtain rfl := Option.some.inj H
         exact galoislaw01_NaturalPowers.M2
       ·replace c65 := Bool.eq_false_iff.mpr c65
        subst c65
        rw [if_neg Bool.false_ne_true] at H
        obtain rfl := Option.some.inj H
        exact galoislaw01_NaturalPowers.M2
      ·replace c63 := Bool.eq_false_iff.mpr c63
       subst c63
       rw [if_neg Bool.false_ne_true] at H
       obtain rfl := Option.some.inj H
       exact galoislaw01_NaturalPowers.M2
     ·replace c61 := Bool.eq_false_iff.mpr c61
      subst c61
      rw [if_neg Bool.false_ne_true] at H
      obtain rfl := Option.some.inj H
      go_wp2_with (first | ((with_reducible refine gate_callee (f := 20) rfl ?_); refine goesL_ (some 28) rfl rfl Try.func20 (by kernel_rfl) rfl #[.string a0, .int .i64 a1] rfl ZA ?_; (with_reducible refine (natural_Pow.calls kj2 a0 a1 t567 t568 _ A11.out).mono ?_); rintro e w83 ⟨rfl, hb⟩; refine ⟨_, rfl, ?_⟩; replace HB := Aside0.mk (below_step ZB hb); (try clear hb)) | ((with_reducible refine gate_callee (f := 21) rfl ?_); refine goesL_ (some 34) rfl rfl Try.func21 (by kernel_rfl) rfl #[.string a0, .int .i64 a1] rfl ZA ?_; (with_reducible refine (natural_Root.calls kj2 a0 a1 t569 t570 _ A12.out).mono ?_); rintro e w84 ⟨rfl, hb⟩; refine ⟨_, rfl, ?_⟩; replace HB := Aside0.mk (below_step ZB hb); (try clear hb)) | ((with_reducible refine gate_callee (f := 22) rfl ?_); refine goesL_ (some 39) rfl rfl Try.func22 (by kernel_rfl) rfl #[.string a0] rfl ZA ?_; (with_reducible refine (natural_Sqrt.calls kj2 a0 t571 t572 _ A13.out).mono ?_); rintro e w85 ⟨rfl, hb⟩; refine ⟨_, rfl, ?_⟩; replace HB := Aside0.mk (below_step ZB hb); (try clear hb)) | ((with_reducible refine gate_callee (f := 23) rfl ?_); refine goesL_ (some 44) rfl rfl Try.func23 (by kernel_rfl) rfl #[.string a0] rfl ZA ?_; (with_reducible refine (natural_Bits.calls kj2 a0 t573 t574 _ A14.out).mono ?_); rintro e w86 ⟨rfl, hb⟩; refine ⟨_, rfl, ?_⟩; replace HB := Aside0.mk (below_step ZB hb); (try clear hb)) | ((with_reducible refine gate_callee (f := 24) rfl ?_); refine goesL_ (some 48) rfl rfl Try.func24 (by kernel_rfl) rfl #[.string a0] rfl ZA ?_; (with_reducible refine (galoisref01_Check.calls a0 t575 _ A15.out).mono ?_); rintro e w' ⟨rfl, ⟨nd, rfl⟩⟩; refine ⟨_, rfl, ?_⟩) | ((with_reducible refine gate_callee (f := 17) rfl ?_); refine goesL_ (some 54) rfl rfl Try.func17 (by kernel_rfl) rfl #[.string t567, .int .i64 t568, .int .i64 t575, .string (⟨#[]⟩ : ByteArray)] rfl ZA ?_; (with_reducible refine (galoislaw01_right.calls t567 t568 t575 (⟨#[]⟩ : ByteArray) false _ A60.out).mono ?_); rintro e w' ⟨rfl, ⟨nd, rfl⟩⟩; refine ⟨_, rfl, ?_⟩))
      go_ret
      exact ⟨ZE, ZB⟩
def galoislaw01_NaturalPowers.Pure : Prop := ∀ (a0 : ByteArray) (a1 : Int), a0.size ≤ 140737488351232 → (Lit.int .i64 a1).wf = true → ∃ k, galoislaw01_NaturalPowers.f k a0 a1 = some true
theorem galoislaw01_NaturalPowers.walk (P : galoislaw01_NaturalPowers.Pure) (a0 : ByteArray) (a1 : Int) (w : World) (w0 : a0.size ≤ 140737488351232) (w1 : (Lit.int .i64 a1).wf = true) :
  Calls Try.prog 4 #[.string a0, .int .i64 a1] w fun e w' => e = .returned (.bool true) ∧ Below w.heap.size w w' := by
 obtain ⟨k, h⟩ := P a0 a1 w0 w1
 refine (galoislaw01_NaturalPowers.calls k a0 a1 true w h).mono ?_
 rintro e w' ⟨rfl, hd⟩
 exact ⟨rfl, hd⟩
end Go.Proofs.Ytohkmnbnjacfaaa.All
namespace Go.Proofs.Ytohkmnbnjacfaaa.All
open Go.Proofs.YtohkmnbnjacfaaaX
open Go.RowKit Go.Proofs.YtohkmnbnjacfaaaW.PrintWords Go.Proofs.YtohkmnbnjacfaaaW.PrintLast Go.Proofs.YtohkmnbnjacfaaaW.PrintMore
attribute [local go_sem] max2_int min2_int max_two min_two max_three min_three max_four min_four
set_option linter.unusedVariables false
set_option linter.unusedSimpArgs false
end Go.Proofs.Ytohkmnbnjacfaaa.All
namespace Go.Proofs.Ytohkmnbnjacfaaa.All
open Go.Proofs.YtohkmnbnjacfaaaX
open Go.RowKit Go.Proofs.YtohkmnbnjacfaaaW.PrintWords Go.Proofs.YtohkmnbnjacfaaaW.PrintLast Go.Proofs.YtohkmnbnjacfaaaW.PrintMore
attribute [local go_sem] max2_int min2_int max_two min_two max_three min_three max_four min_four
set_option linter.unusedVariables false
set_option linter.unusedSimpArgs false
end Go.Proofs.Ytohkmnbnjacfaaa.All
namespace Go.Proofs.Ytohkmnbnjacfaaa.All
open Go.Proofs.YtohkmnbnjacfaaaX
open Go.RowKit Go.Proofs.YtohkmnbnjacfaaaW.PrintWords Go.Proofs.YtohkmnbnjacfaaaW.PrintLast Go.Proofs.YtohkmnbnjacfaaaW.PrintMore
attribute [local go_sem] max2_int min2_int max_two min_two max_three min_three max_four min_four
set_option linter.unusedVariables false
set_option linter.unusedSimpArgs false
end Go.Proofs.Ytohkmnbnjacfaaa.All
set_option linter.unusedVariables false
namespace Go.Proofs.YtohkmnbnjacfaaaN
open Go.Proofs.YtohkmnbnjacfaaaW.PrintWords
def vB (B : Int) : List Int → Int
  | [] => 0
  | x :: xs => x + B * vB B xs
def Dig (B : Int) (l : List Int) : Prop := ∀ x, x ∈ l → 0 ≤ x ∧ x < B
def Trim (l : List Int) : Prop := 0 < l.length → rd l (l.length - 1 : Nat) ≠ 0
theorem vB_cons (B x : Int) (xs : List Int) : vB B (x :: xs) = x + B * vB B xs := rfl
theorem Dig_nil (B : Int) : Dig B [] := fun _ h => absurd h (List.not_mem_nil)
theorem Dig_cons {B x : Int} {xs : List Int} : Dig B (x :: xs) ↔ (0 ≤ x ∧ x < B) ∧ Dig B xs := by
  constructor
  · intro h
    exact ⟨h x (List.mem_cons_self), fun y hy => h y (List.mem_cons_of_mem _ hy)⟩
  · rintro ⟨h1, h2⟩ y hy
    rcases List.mem_cons.1 hy with rfl | hy
    · exact h1
    · exact h2 y hy
theorem Dig_append {B : Int} {xs ys : List Int} (hx : Dig B xs) (hy : Dig B ys) : Dig B (xs ++ ys) := by
  intro z hz
  rcases List.mem_append.1 hz with h | h
  · exact hx z h
  · exact hy z h
theorem Dig_take {B : Int} {xs : List Int} (h : Dig B xs) (n : Nat) : Dig B (xs.take n) := fun z hz => h z (List.mem_of_mem_take hz)
theorem Dig_drop {B : Int} {xs : List Int} (h : Dig B xs) (n : Nat) : Dig B (xs.drop n) := fun z hz => h z (List.mem_of_mem_drop hz)
theorem Dig_set {B : Int} {xs : List Int} (h : Dig B xs) (n : Nat) {v : Int} (h0 : 0 ≤ v) (h1 : v < B) : Dig B (xs.set n v) := by
  intro z hz
  rcases List.mem_or_eq_of_mem_set hz with hz | rfl
  · exact h z hz
  · exact ⟨h0, h1⟩
theorem Dig_replicate {B : Int} (hB : 0 < B) (n : Nat) : Dig B (List.replicate n 0) := by
  intro z hz
  rw [List.eq_of_mem_replicate hz]
  exact ⟨Int.le_refl _, hB⟩
theorem Dig_reverse {B : Int} {xs : List Int} (h : Dig B xs) : Dig B xs.reverse := fun z hz => h z (List.mem_reverse.1 hz)
theorem rd_nat (xs : List Int) (n : Nat) : rd xs (n : Int) = xs.getD n 0 := by simp [rd]
theorem rd_get (xs : List Int) (n : Nat) (h : n < xs.length) : rd xs (n : Int) = xs[n] := by
  rw [rd_nat, List.getD_eq_getElem?_getD, List.getElem?_eq_getElem h]
  rfl
theorem Dig_rd {B : Int} {xs : List Int} (h : Dig B xs) (n : Nat) (hn : n < xs.length) : 0 ≤ rd xs (n : Int) ∧ rd xs (n : Int) < B := by
  rw [rd_get xs n hn]
  exact h _ (List.getElem_mem hn)
theorem Dig_rd0 {B : Int} (hB : 0 < B) {xs : List Int} (h : Dig B xs) (n : Nat) : 0 ≤ rd xs (n : Int) ∧ rd xs (n : Int) < B := by
  rcases Nat.lt_or_ge n xs.length with hn | hn
  · exact Dig_rd h n hn
  · rw [rd_nat, List.getD_eq_getElem?_getD, List.getElem?_eq_none hn]
    exact ⟨Int.le_refl _, hB⟩
theorem vB_append (B : Int) (xs ys : List Int) : vB B (xs ++ ys) = vB B xs + B ^ xs.length * vB B ys := by
  induction xs with
  | nil => simp [vB]
  | cons x xs ih =>
    rw [List.cons_append, vB_cons, ih, vB_cons, List.length_cons, Int.pow_succ, Int.mul_add, ← Int.add_assoc, ← Int.mul_assoc, Int.mul_comm B (B ^ xs.length)]
theorem vB_replicate (B : Int) (n : Nat) : vB B (List.replicate n 0) = 0 := by
  induction n with
  | zero => rfl
  | succ n ih => rw [List.replicate_succ, vB_cons, ih]; simp
theorem vB_nonneg {B : Int} (hB : 0 ≤ B) {l : List Int} (h : Dig B l) : 0 ≤ vB B l := by
  induction l with
  | nil => exact Int.le_refl _
  | cons x xs ih =>
    have := Dig_cons.1 h
    rw [vB_cons]
    exact Int.add_nonneg this.1.1 (Int.mul_nonneg hB (ih this.2))
theorem vB_lt {B : Int} (hB : 0 < B) {l : List Int} (h : Dig B l) : vB B l < B ^ l.length := by
  induction l with
  | nil => simp [vB]
  | cons x xs ih =>
    have hd := Dig_cons.1 h
    have h1 := ih hd.2
    rw [vB_cons, List.length_cons, Int.pow_succ, Int.mul_comm (B ^ xs.length) B]
    have h2 : B * (vB B xs + 1) ≤ B * B ^ xs.length := Int.mul_le_mul_of_nonneg_left (by omega) (by omega)
    rw [Int.mul_add, Int.mul_one] at h2
    omega
theorem vB_split (B : Int) (l : List Int) (n : Nat) (h : n ≤ l.length) : vB B l = vB B (l.take n) + B ^ n * vB B (l.drop n) := by
  conv => lhs; rw [← List.take_append_drop n l]
  rw [vB_append, List.length_take, Nat.min_eq_left h]
theorem vB_take_succ (B : Int) (l : List Int) (n : Nat) (h : n < l.length) : vB B (l.take (n + 1)) = vB B (l.take n) + B ^ n * rd l (n : Int) := by
  rw [List.take_succ_eq_append_getElem h, vB_append, List.length_take, Nat.min_eq_left (by omega), rd_get l n h]
  simp [vB]
theorem vB_set (B : Int) (l : List Int) (n : Nat) (v : Int) (h : n < l.length) : vB B (l.set n v) = vB B l + B ^ n * (v - rd l (n : Int)) := by
  induction l generalizing n with
  | nil => simp at h
  | cons x xs ih =>
    cases n with
    | zero => simp [vB, rd]; omega
    | succ n =>
      have h' : n < xs.length := by simpa using h
      rw [List.set_cons_succ, vB_cons, ih n h', vB_cons]
      have : rd (x :: xs) ((n + 1 : Nat) : Int) = rd xs (n : Int) := by rw [rd_nat, rd_nat]; simp
      rw [this, Int.pow_succ, Int.mul_add, ← Int.add_assoc, ← Int.mul_assoc, Int.mul_comm B (B ^ n)]
theorem rd_set_self (l : List Int) (n : Nat) (v : Int) (h : n < l.length) : rd (l.set n v) (n : Int) = v := by
  rw [rd_get _ n (by simpa using h), List.getElem_set_self]
theorem rd_set_ne (l : List Int) (n m : Nat) (v : Int) (h : n ≠ m) : rd (l.set n v) (m : Int) = rd l (m : Int) := by
  rw [rd_nat, rd_nat, List.getD_eq_getElem?_getD, List.getD_eq_getElem?_getD, List.getElem?_set_ne h]
theorem rd_take (xs : List Int) (n m : Nat) (h : m < n) : rd (xs.take n) (m : Int) = rd xs (m : Int) := by
  rw [rd_nat, rd_nat, List.getD_eq_getElem?_getD, List.getD_eq_getElem?_getD, List.getElem?_take_of_lt h]
theorem rd_drop (xs : List Int) (n m : Nat) : rd (xs.drop n) (m : Int) = rd xs ((n + m : Nat) : Int) := by
  rw [rd_nat, rd_nat, List.getD_eq_getElem?_getD, List.getD_eq_getElem?_getD, List.getElem?_drop]
theorem rd_replicate (n m : Nat) : rd (List.replicate n 0) (m : Int) = 0 := by
  rw [rd_nat, List.getD_eq_getElem?_getD, List.getElem?_replicate]
  split <;> rfl
theorem dig_inj {B : Int} (hB : 0 < B) : ∀ {l m : List Int}, Dig B l → Dig B m → l.length = m.length → vB B l = vB B m → l = m
  | [], [], _, _, _, _ => rfl
  | [], y :: ys, _, _, h, _ => by simp at h
  | x :: xs, [], _, _, h, _ => by simp at h
  | x :: xs, y :: ys, hl, hm, h, hv => by
    have h1 := Dig_cons.1 hl
    have h2 := Dig_cons.1 hm
    rw [vB_cons, vB_cons] at hv
    have hx : x = y := by
      have e1 : (x + B * vB B xs) % B = x := by rw [Int.add_mul_emod_self_left, Int.emod_eq_of_lt h1.1.1 h1.1.2]
      have e2 : (y + B * vB B ys) % B = y := by rw [Int.add_mul_emod_self_left, Int.emod_eq_of_lt h2.1.1 h2.1.2]
      rw [← e1, ← e2, hv]
    subst hx
    have hv' : B * vB B xs = B * vB B ys := by omega
    have := Int.eq_of_mul_eq_mul_left (by omega) hv'
    rw [dig_inj hB h1.2 h2.2 (by simpa using h) this]
theorem trim_le {B : Int} (hB : 0 < B) {l : List Int} (h : Dig B l) (ht : Trim l) (hp : 0 < l.length) : B ^ (l.length - 1) ≤ vB B l := by
  have e : l.take (l.length - 1 + 1) = l := List.take_of_length_le (by omega)
  have h1 := vB_take_succ B l (l.length - 1) (by omega)
  rw [e] at h1
  rw [h1]
  have h2 := vB_nonneg (Int.le_of_lt hB) (Dig_take h (l.length - 1))
  have h3 := (Dig_rd h (l.length - 1) (by omega)).1
  have h4 : 1 ≤ rd l ((l.length - 1 : Nat) : Int) := by have := ht hp; omega
  have h5 : B ^ (l.length - 1) * 1 ≤ B ^ (l.length - 1) * rd l ((l.length - 1 : Nat) : Int) := Int.mul_le_mul_of_nonneg_left h4 (Int.le_of_lt (Int.pow_pos hB))
  rw [Int.mul_one] at h5
  omega
theorem pow_le_pow {B : Int} (hB : 0 < B) {m n : Nat} (h : m ≤ n) : B ^ m ≤ B ^ n := by
  obtain ⟨j, rfl⟩ : ∃ j, n = m + j := ⟨n - m, by omega⟩
  rw [Int.pow_add]
  have h1 : 1 ≤ B ^ j := by have : 0 < B ^ j := Int.pow_pos hB; omega
  have h2 : B ^ m * 1 ≤ B ^ m * B ^ j := Int.mul_le_mul_of_nonneg_left h1 (Int.le_of_lt (Int.pow_pos hB))
  rwa [Int.mul_one] at h2
theorem trim_len {B : Int} (hB : 0 < B) {l m : List Int} (hl : Dig B l) (hm : Dig B m) (ht : Trim m) (h : l.length < m.length) : vB B l < vB B m := by
  have h1 := vB_lt hB hl
  have h2 := trim_le hB hm ht (by omega)
  have h3 := pow_le_pow hB (show l.length ≤ m.length - 1 by omega)
  omega
theorem trim_inj {B : Int} (hB : 0 < B) {l m : List Int} (hl : Dig B l) (hm : Dig B m) (tl : Trim l) (tm : Trim m) (hv : vB B l = vB B m) : l = m := by
  rcases Nat.lt_trichotomy l.length m.length with h | h | h
  · have := trim_len hB hl hm tm h; omega
  · exact dig_inj hB hl hm h hv
  · have := trim_len hB hm hl tl h; omega
def dgs (b : Nat) (n : Nat) : List Int :=
  if h : n = 0 then [] else ((n % (b + 2) : Nat) : Int) :: dgs b (n / (b + 2))
termination_by n
decreasing_by exact Nat.div_lt_self (by omega) (by omega)
theorem dgs_zero (b : Nat) : dgs b 0 = [] := by rw [dgs]; simp
theorem dgs_pos (b n : Nat) (h : n ≠ 0) : dgs b n = ((n % (b + 2) : Nat) : Int) :: dgs b (n / (b + 2)) := by rw [dgs]; simp [h]
theorem dgs_spec (b : Nat) : ∀ n, Dig (b + 2 : Nat) (dgs b n) ∧ Trim (dgs b n) ∧ vB (b + 2 : Nat) (dgs b n) = n := by
  intro n
  induction n using Nat.strongRecOn with
  | _ n ih =>
    by_cases h : n = 0
    · subst h
      rw [dgs_zero]
      exact ⟨Dig_nil _, fun h => absurd h (by simp), rfl⟩
    · obtain ⟨h1, h2, h3⟩ := ih (n / (b + 2)) (Nat.div_lt_self (by omega) (by omega))
      rw [dgs_pos b n h]
      have hm := Nat.mod_lt n (show 0 < b + 2 by omega)
      have hd := Nat.div_add_mod n (b + 2)
      refine ⟨Dig_cons.2 ⟨⟨by omega, by omega⟩, h1⟩, ?_, ?_⟩
      · intro _
        by_cases hz : n / (b + 2) = 0
        · rw [hz, dgs_zero]
          show rd [((n % (b + 2) : Nat) : Int)] ((0 : Nat) : Int) ≠ 0
          rw [hz] at hd
          have : ((n % (b + 2) : Nat) : Int) ≠ 0 := by omega
          simpa [rd] using this
        · have hl : 0 < (dgs b (n / (b + 2))).length := by rw [dgs_pos _ _ hz]; simp
          have := h2 hl
          rw [List.length_cons, Nat.add_sub_cancel]
          obtain ⟨q, hq⟩ : ∃ q, (dgs b (n / (b + 2))).length = q + 1 := ⟨(dgs b (n / (b + 2))).length - 1, by omega⟩
          rw [hq] at this ⊢
          rw [rd_nat] at this ⊢
          simpa using this
      · rw [vB_cons, h3]
        have : ((b + 2 : Nat) : Int) * ((n / (b + 2) : Nat) : Int) + ((n % (b + 2) : Nat) : Int) = n := by exact_mod_cast hd
        omega
theorem dgs_unique {b : Nat} {l : List Int} {n : Nat} (hl : Dig (b + 2 : Nat) l) (ht : Trim l) (hv : vB (b + 2 : Nat) l = n) : l = dgs b n := by
  obtain ⟨h1, h2, h3⟩ := dgs_spec b n
  exact trim_inj (by omega) hl h1 ht h2 (by rw [hv, h3])
theorem dgs_len {b n k : Nat} (h : n < (b + 2) ^ k) : (dgs b n).length ≤ k := by
  obtain ⟨h1, h2, h3⟩ := dgs_spec b n
  rcases Nat.lt_or_ge k (dgs b n).length with hk | hk
  · have h4 := trim_le (by omega) h1 h2 (by omega)
    rw [h3] at h4
    have h5 := pow_le_pow (B := ((b + 2 : Nat) : Int)) (by omega) (show k ≤ (dgs b n).length - 1 by omega)
    have h6 : ((n : Nat) : Int) < ((b + 2 : Nat) : Int) ^ k := by exact_mod_cast h
    omega
  · exact hk
theorem dgs_lt (b n : Nat) : n < (b + 2) ^ (dgs b n).length := by
  obtain ⟨h1, h2, h3⟩ := dgs_spec b n
  have := vB_lt (by omega) h1
  rw [h3] at this
  exact_mod_cast this
end Go.Proofs.YtohkmnbnjacfaaaN
set_option linter.unusedVariables false
namespace Go.Proofs.YtohkmnbnjacfaaaN
open Go.RowKit Go.Proofs.Ytohkmnbnjacfaaa.All Go.Proofs.YtohkmnbnjacfaaaW.PrintWords Go.Proofs.YtohkmnbnjacfaaaW.PrintLast Go.Proofs.YtohkmnbnjacfaaaW.PrintMore
theorem w64 {x : Int} (h0 : -9223372036854775808 ≤ x) (h1 : x < 9223372036854775808) : wrap64 x = x := by unfold wrap64; omega
theorem u64 {x : Int} (h0 : 0 ≤ x) (h1 : x < 18446744073709551616) : IntKind.u64.wrap x = x := by
  simp [IntKind.wrap, IntKind.bits, IntKind.signed]
  omega
theorem u64_mod (x : Int) : IntKind.u64.wrap x = x % 18446744073709551616 := by simp [IntKind.wrap, IntKind.bits, IntKind.signed]
abbrev B64 : Int := 18446744073709551616
def d64 (n : Nat) : List Int := dgs 18446744073709551614 n
theorem d64_dig (n : Nat) : Dig B64 (d64 n) := (dgs_spec 18446744073709551614 n).1
theorem d64_val (n : Nat) : vB B64 (d64 n) = n := (dgs_spec 18446744073709551614 n).2.2
theorem d64_unique {l : List Int} {n : Nat} (hl : Dig B64 l) (ht : Trim l) (hv : vB B64 l = n) : l = d64 n := dgs_unique hl ht hv
theorem d64_zero : d64 0 = [] := dgs_zero _
def d8 (n : Nat) : List Int := dgs 254 n
theorem d8_dig (n : Nat) : Dig 256 (d8 n) := (dgs_spec 254 n).1
theorem d8_trim (n : Nat) : Trim (d8 n) := (dgs_spec 254 n).2.1
theorem d8_val (n : Nat) : vB 256 (d8 n) = n := (dgs_spec 254 n).2.2
theorem d8_unique {l : List Int} {n : Nat} (hl : Dig 256 l) (ht : Trim l) (hv : vB 256 l = n) : l = d8 n := dgs_unique hl ht hv
def nat (n : Nat) : ByteArray := strOfNums (d8 n).reverse
theorem bytesOf_str {l : List Int} (h : Dig 256 l) : bytesOf (strOfNums l) = l := by
  unfold bytesOf
  rw [strOfNums_data, List.map_map]
  conv => rhs; rw [← List.map_id l]
  refine List.map_congr_left fun x hx => ?_
  have := h x hx
  simp [UInt8.toNat_ofNat']
  omega
theorem str_bytesOf (s : ByteArray) : strOfNums (bytesOf s) = s := by
  unfold strOfNums bytesOf
  rw [List.map_map]
  have : List.map ((fun n : Int => UInt8.ofNat n.toNat) ∘ fun b : UInt8 => (b.toNat : Int)) s.data.toList = s.data.toList := by
    conv => rhs; rw [← List.map_id s.data.toList]
    refine List.map_congr_left fun x _ => ?_
    simp
  rw [this]
theorem bytesOf_dig (s : ByteArray) : Dig 256 (bytesOf s) := by
  intro x hx
  unfold bytesOf at hx
  obtain ⟨b, _, rfl⟩ := List.mem_map.1 hx
  have := b.toNat_lt
  omega
theorem str_ext {s t : ByteArray} (h : bytesOf s = bytesOf t) : s = t := by rw [← str_bytesOf s, h, str_bytesOf]
theorem toList_ext {s t : ByteArray} : s.toList = t.toList ↔ s = t := by
  constructor
  · intro h
    rw [ByteArray.toList_eq, ByteArray.toList_eq] at h
    cases s
    cases t
    congr
    exact Array.toList_inj.1 h
  · rintro rfl; rfl
theorem toList_nil {s : ByteArray} : s.toList = [] ↔ s.size = 0 := by
  rw [ByteArray.toList_eq, ← List.length_eq_zero_iff, data_length]
theorem nat_bytes (n : Nat) : bytesOf (nat n) = (d8 n).reverse := bytesOf_str (Dig_reverse (d8_dig n))
theorem nat_size (n : Nat) : (nat n).size = (d8 n).length := by rw [← bytesOf_length, nat_bytes, List.length_reverse]
def bval (s : ByteArray) : Int := vB 256 (bytesOf s).reverse
theorem bval_nat (n : Nat) : bval (nat n) = n := by unfold bval; rw [nat_bytes, List.reverse_reverse, d8_val]
theorem bval_nonneg (s : ByteArray) : 0 ≤ bval s := vB_nonneg (by decide) (Dig_reverse (bytesOf_dig s))
theorem nat_inj {m n : Nat} : nat m = nat n ↔ m = n := by
  constructor
  · intro h
    have := bval_nat m
    rw [h, bval_nat] at this
    omega
  · rintro rfl; rfl
theorem rd_reverse (l : List Int) (n : Nat) (h : n < l.length) : rd l.reverse (n : Int) = rd l ((l.length - 1 - n : Nat) : Int) := by
  rw [rd_get _ n (by simpa using h), rd_get _ _ (by omega), List.getElem_reverse]
theorem bt_rd (s : ByteArray) (i : Int) : bt s i = rd (bytesOf s) i := (rd_bytesOf s i).symm
theorem wf_nat {s : ByteArray} (h : s.size = 0 ∨ bt s 0 ≠ 0) : s = nat (bval s).toNat := by
  apply str_ext
  rw [nat_bytes]
  have ht : Trim (bytesOf s).reverse := by
    intro hp
    rw [List.length_reverse] at hp ⊢
    rw [rd_reverse _ _ (by omega), bt_rd] at *
    rw [bytesOf_length] at hp
    have e : (bytesOf s).length - 1 - ((bytesOf s).length - 1) = 0 := by omega
    rw [e]
    rcases h with h | h
    · omega
    · exact h
  have := d8_unique (n := (bval s).toNat) (Dig_reverse (bytesOf_dig s)) ht (by have := bval_nonneg s; unfold bval at this ⊢; omega)
  rw [← this, List.reverse_reverse]
theorem nat_wf (n : Nat) : (nat n).size = 0 ∨ bt (nat n) 0 ≠ 0 := by
  rcases Nat.eq_zero_or_pos (d8 n).length with h | h
  · left; rw [nat_size, h]
  · right
    rw [bt_rd, nat_bytes]
    have := d8_trim n h
    have e := rd_reverse (d8 n) 0 (by omega)
    rw [show (d8 n).length - 1 - 0 = (d8 n).length - 1 by omega] at e
    rw [← e] at this
    exact this
theorem nat_zero : nat 0 = ⟨#[]⟩ := by unfold nat d8; rw [dgs_zero]; rfl
theorem nat_size_zero {n : Nat} : (nat n).size = 0 ↔ n = 0 := by
  constructor
  · intro h
    rw [nat_size] at h
    have := d8_val n
    rw [List.eq_nil_of_length_eq_zero h] at this
    simp [vB] at this
    omega
  · rintro rfl; rw [nat_zero]; rfl
theorem nat_size_le {n k : Nat} : (nat n).size ≤ k ↔ n < 256 ^ k := by
  rw [nat_size]
  constructor
  · intro h
    exact Nat.lt_of_lt_of_le (dgs_lt 254 n) (Nat.pow_le_pow_right (by decide) h)
  · intro h
    exact dgs_len h
theorem nat_lt_size (n : Nat) : n < 256 ^ (nat n).size := nat_size_le.1 (Nat.le_refl _)
theorem vB_zero (B : Int) : ∀ {l : List Int}, (∀ j : Nat, j < l.length → rd l (j : Int) = 0) → vB B l = 0
  | [], _ => rfl
  | x :: xs, h => by
    have h0 : x = 0 := h 0 (by simp)
    have := vB_zero B (l := xs) (fun j hj => by
      have := h (j + 1) (by simpa using hj)
      rw [rd_nat] at this ⊢
      simpa using this)
    rw [vB_cons, h0, this]
    simp
theorem vB_low (B : Int) {l : List Int} {n : Nat} (hn : n ≤ l.length) (h : ∀ j : Nat, n ≤ j → j < l.length → rd l (j : Int) = 0) : vB B l = vB B (l.take n) := by
  rw [vB_split B l n hn, vB_zero B (l := l.drop n) (fun j hj => by rw [rd_drop]; exact h _ (by omega) (by simp at hj; omega))]
  simp
theorem trim_l0 (l : List Int) (hd : Dig B64 l) (hl : l.length < 9223372036854775808) : ∀ n : Nat, n ≤ l.length → (∀ j : Nat, n ≤ j → j < l.length → rd l (j : Int) = 0) → Ev (fun k => exact_trim.l0 k l (n : Int)) (d64 (vB B64 l).toNat) := by
  have hv := vB_nonneg (by decide) hd
  intro n
  induction n with
  | zero =>
    intro hn h
    refine Ev.step (f := fun _ => some (d64 (vB B64 l).toNat)) (fun k => ?_) (Ev.now _)
    simp only [exact_trim.l0]
    rw [if_neg (by omega), if_pos (by omega), if_pos (by omega)]
    have := vB_low B64 hn h
    rw [this]
    simp [vB, d64_zero]
  | succ n ih =>
    intro hn h
    have e1 : wrap64 (((n + 1 : Nat) : Int) - 1) = (n : Int) := by rw [w64 (by omega) (by omega)]; omega
    by_cases hz : rd l (n : Int) = 0
    · refine Ev.step (f := fun k => exact_trim.l0 k l (n : Int)) (fun k => ?_) (ih (by omega) (fun j hj hjl => ?_))
      · simp only [exact_trim.l0, e1]
        rw [if_pos (by omega), if_pos (by omega), if_pos (by omega), if_pos hz]
      · rcases Nat.lt_or_ge n j with hlt | hge
        · exact h j hlt hjl
        · have : j = n := by omega
          subst this
          exact hz
    · refine Ev.step (f := fun _ => some (d64 (vB B64 l).toNat)) (fun k => ?_) (Ev.now _)
      simp only [exact_trim.l0, e1]
      rw [if_pos (by omega), if_pos (by omega), if_pos (by omega), if_neg hz, if_pos (by omega), if_pos (by omega)]
      congr 1
      have hlen : (l.take (n + 1)).length = n + 1 := by rw [List.length_take]; omega
      refine d64_unique (Dig_take hd _) (fun _ => ?_) ?_
      · rw [Int.toNat_natCast, hlen, Nat.add_sub_cancel, rd_take l _ _ (by omega)]
        exact hz
      · rw [Int.toNat_natCast, ← vB_low B64 hn h]
        omega
theorem trim_ev {l : List Int} (hd : Dig B64 l) (hl : l.length < 9223372036854775808) : Ev (fun k => exact_trim.f k l) (d64 (vB B64 l).toNat) :=
  trim_l0 l hd hl l.length (Nat.le_refl _) (fun j h1 h2 => absurd h1 (by omega))
end Go.Proofs.YtohkmnbnjacfaaaN
set_option linter.unusedVariables false
namespace Go.Proofs.YtohkmnbnjacfaaaN
open Go.RowKit Go.Proofs.Ytohkmnbnjacfaaa.All Go.Proofs.YtohkmnbnjacfaaaW.PrintWords Go.Proofs.YtohkmnbnjacfaaaW.PrintLast Go.Proofs.YtohkmnbnjacfaaaW.PrintMore
theorem wraps_u64 (n : Int) (h0 : 0 ≤ n) (h1 : n < 2 ^ 64) : IntKind.u64.wrap n = n := u64 h0 (by simpa using h1)
theorem pow8 (q r : Nat) : (B64 : Int) ^ q * 256 ^ r = 256 ^ (8 * q + r) := by
  have e : (256 : Int) ^ 8 = B64 := rfl
  rw [Int.pow_add, Int.pow_mul, e]
theorem high_succ (s : ByteArray) (i : Nat) (h : i < s.size) : vB 256 ((bytesOf s).take (i + 1)).reverse = bt s i + 256 * vB 256 ((bytesOf s).take i).reverse := by
  rw [List.take_succ_eq_append_getElem (by rw [bytesOf_length]; exact h), List.reverse_append, bt_rd, rd_get _ i (by rw [bytesOf_length]; exact h)]
  rfl
theorem high_all (s : ByteArray) : vB 256 ((bytesOf s).take s.size).reverse = bval s := by
  rw [List.take_of_length_le (by rw [bytesOf_length]; exact Nat.le_refl _)]
  rfl
theorem word_or (x c : Int) (r : Nat) (hr : r < 8) (hx0 : 0 ≤ x) (hx1 : x < B64) (hm : x % 256 ^ (r + 1) = 0) (hc0 : 0 ≤ c) (hc1 : c ≤ 255) :
    Go.bits .or .u64 x (shl .u64 (IntKind.u64.wrap c) (8 * r : Nat)) = x + c * 256 ^ r ∧ 0 ≤ x + c * 256 ^ r ∧ x + c * 256 ^ r < B64 ∧ (x + c * 256 ^ r) % 256 ^ r = 0 := by
  have h64 : (B64 : Int) = 18446744073709551616 := rfl
  have hs : shl .u64 (IntKind.u64.wrap c) (8 * r : Nat) = c * 256 ^ r := by
    unfold shl
    rw [u64 hc0 (by omega), Int.toNat_natCast]
    have : min (8 * r) IntKind.u64.bits = 8 * r := Nat.min_eq_left (by show 8 * r ≤ 64; omega)
    rw [this, Int.pow_mul]
    have e : (2 : Int) ^ 8 = 256 := rfl
    rw [e]
    apply u64
    · exact Int.mul_nonneg hc0 (Int.le_of_lt (Int.pow_pos (by decide)))
    · have : r = 0 ∨ r = 1 ∨ r = 2 ∨ r = 3 ∨ r = 4 ∨ r = 5 ∨ r = 6 ∨ r = 7 := by omega
      rcases this with rfl | rfl | rfl | rfl | rfl | rfl | rfl | rfl <;> omega
  rw [hs]
  have hb : 0 ≤ c * 256 ^ r ∧ c * 256 ^ r < 256 ^ (r + 1) ∧ 0 ≤ x + c * 256 ^ r ∧ x + c * 256 ^ r < B64 ∧ (x + c * 256 ^ r) % 256 ^ r = 0 ∧ c * 256 ^ r < 2 ^ 64 := by
    have : r = 0 ∨ r = 1 ∨ r = 2 ∨ r = 3 ∨ r = 4 ∨ r = 5 ∨ r = 6 ∨ r = 7 := by omega
    rcases this with rfl | rfl | rfl | rfl | rfl | rfl | rfl | rfl <;> (clear hs; simp only [B64] at hx1 ⊢; omega)
  refine ⟨?_, hb.2.2.1, hb.2.2.2.1, hb.2.2.2.2.1⟩
  have hp : (2 : Int) ^ (8 * (r + 1)) = 256 ^ (r + 1) := by rw [Int.pow_mul]; rfl
  exact bits_join .u64 64 (by decide) wraps_u64 (8 * (r + 1)) x (c * 256 ^ r) hx0 (by rw [hp]; exact hm) (by rw [h64] at hx1; simpa using hx1) hb.1 (by rw [hp]; exact hb.2.1) hb.2.2.2.2.2
theorem words_l0 (s : ByteArray) (hs : s.size ≤ 1099511627776) : ∀ (d i : Nat) (w : List Int), i + d = s.size → w.length = (s.size + 7) / 8 → Dig B64 w → vB B64 w = vB 256 ((bytesOf s).take i).reverse * 256 ^ d →
    (0 < d → rd w ((d - 1) / 8 : Nat) % 256 ^ ((d - 1) % 8 + 1) = 0 ∧ ∀ q : Nat, q < (d - 1) / 8 → rd w (q : Int) = 0) → Ev (fun k => exact_words.l0 k s w (s.size : Int) (i : Int)) (d64 (bval s).toNat) := by
  intro d
  induction d with
  | zero =>
    intro i w hi hl hd hv _
    have hi : i = s.size := by omega
    subst hi
    have hv' : vB B64 w = bval s := by rw [hv, high_all]; simp
    refine Ev.step (f := fun k => (exact_trim.f k w).bind fun t => some t) (fun k => ?_) (Ev.bind (trim_ev hd (by omega)) ?_)
    · simp only [exact_words.l0]
      rw [if_neg (by omega)]
    · rw [hv']
      exact Ev.now _
  | succ d ih =>
    intro i w hi hl hd hv hz
    obtain ⟨hz1, hz2⟩ := hz (by omega)
    rw [Nat.add_sub_cancel] at hz1 hz2
    have hq : d / 8 < w.length := by omega
    have hr : d % 8 < 8 := Nat.mod_lt _ (by decide)
    have e1 : wrap64 (Int.tdiv (wrap64 (wrap64 ((s.size : Int) - 1) - (i : Int))) 8) = ((d / 8 : Nat) : Int) := by
      rw [w64 (x := (s.size : Int) - 1) (by omega) (by omega), w64 (x := (s.size : Int) - 1 - (i : Int)) (by omega) (by omega)]
      have : (s.size : Int) - 1 - (i : Int) = (d : Int) := by omega
      rw [this, Int.tdiv_eq_ediv_of_nonneg (by omega), w64 (by omega) (by omega)]
      omega
    have e2 : wrap64 (8 * Int.tmod (wrap64 (wrap64 ((s.size : Int) - 1) - (i : Int))) 8) = ((8 * (d % 8) : Nat) : Int) := by
      rw [w64 (x := (s.size : Int) - 1) (by omega) (by omega), w64 (x := (s.size : Int) - 1 - (i : Int)) (by omega) (by omega)]
      have : (s.size : Int) - 1 - (i : Int) = (d : Int) := by omega
      rw [this, Int.tmod_eq_emod_of_nonneg (by omega), w64 (by omega) (by omega)]
      omega
    have e3 : wrap64 ((i : Int) + 1) = ((i + 1 : Nat) : Int) := by rw [w64 (by omega) (by omega)]; omega
    have c1 : (i : Int) < (s.size : Int) := by omega
    have c3 : ((d / 8 : Nat) : Int) < (w.length : Int) := Int.ofNat_lt.2 hq
    have c4 : 0 < (d / 8 : Nat) → d % 8 = 0 → (d - 1) / 8 = d / 8 - 1 := by omega
    have hi' : i + 1 + d = s.size := by omega
    obtain ⟨hx0, hx1⟩ := Dig_rd hd (d / 8) hq
    obtain ⟨hc0, hc1⟩ := bt_range s (i : Int)
    obtain ⟨ho, ho0, ho1, ho2⟩ := word_or (rd w ((d / 8 : Nat) : Int)) (bt s (i : Int)) (d % 8) hr hx0 hx1 hz1 hc0 hc1
    have hk : 8 * (d / 8) + d % 8 = d := Nat.div_add_mod d 8
    refine Ev.step (f := fun k => exact_words.l0 k s (w.set (d / 8) (rd w ((d / 8 : Nat) : Int) + bt s (i : Int) * 256 ^ (d % 8))) (s.size : Int) ((i + 1 : Nat) : Int)) (fun k => ?_) (ih (i + 1) _ hi' (by rw [List.length_set]; exact hl) (Dig_set hd _ ho0 ho1) ?_ ?_)
    · simp only [exact_words.l0, e1, e2, e3]
      rw [if_pos c1, if_pos (Int.natCast_nonneg _), if_pos c3, if_pos (Int.natCast_nonneg _), if_pos c1, if_pos (Int.natCast_nonneg _), ho, Int.toNat_natCast]
    · rw [vB_set _ _ _ _ hq, hv, high_succ s i (by omega)]
      have e : rd w ((d / 8 : Nat) : Int) + bt s (i : Int) * 256 ^ (d % 8) - rd w ((d / 8 : Nat) : Int) = 256 ^ (d % 8) * bt s (i : Int) := by
        rw [Int.mul_comm (256 ^ (d % 8))]; omega
      rw [e, ← Int.mul_assoc, pow8, hk, Int.pow_succ, Int.add_mul]
      generalize vB 256 ((bytesOf s).take i).reverse = H
      generalize (256 : Int) ^ d = P
      generalize bt s (i : Int) = c
      rw [Int.mul_comm P c, Int.add_comm, Int.mul_assoc 256 H P, Int.mul_comm P 256, ← Int.mul_assoc H 256 P, Int.mul_comm H 256, Int.mul_assoc 256 H P]
    · intro hd0
      by_cases h0 : d % 8 = 0
      · have h1 : (d - 1) / 8 = d / 8 - 1 := by omega
        have h2 : 0 < d / 8 := by omega
        rw [h1]
        refine ⟨?_, fun q hq' => ?_⟩
        · rw [rd_set_ne _ _ _ _ (by omega), hz2 _ (by omega)]
          simp
        · rw [rd_set_ne _ _ _ _ (by omega), hz2 _ (by omega)]
      · have h1 : (d - 1) / 8 = d / 8 := by omega
        have h2 : (d - 1) % 8 + 1 = d % 8 := by omega
        rw [h1, h2]
        refine ⟨?_, fun q hq' => ?_⟩
        · rw [rd_set_self _ _ _ hq]
          exact ho2
        · rw [rd_set_ne _ _ _ _ (by omega), hz2 _ (by omega)]
theorem words_ev (s : ByteArray) (hs : s.size ≤ 1099511627776) : Ev (fun k => exact_words.f k s) (d64 (bval s).toNat) := by
  have e1 : wrap64 (Int.tdiv (wrap64 ((s.size : Int) + 7)) 8) = (((s.size + 7) / 8 : Nat) : Int) := by
    rw [w64 (x := (s.size : Int) + 7) (by omega) (by omega), Int.tdiv_eq_ediv_of_nonneg (by omega), w64 (by omega) (by omega)]
    omega
  refine Ev.congr (f := fun k => exact_words.l0 k s (List.replicate ((s.size + 7) / 8) 0) (s.size : Int) ((0 : Nat) : Int)) (fun k => ?_) (words_l0 s hs s.size 0 _ (by omega) (by simp) (Dig_replicate (by decide) _) ?_ ?_)
  · unfold exact_words.f
    rw [e1, if_pos (by omega), Int.toNat_natCast, if_pos (by omega)]
    rfl
  · rw [vB_replicate]
    simp [vB]
  · intro _
    exact ⟨by rw [rd_replicate]; simp, fun q _ => rd_replicate _ _⟩
theorem words_nat {n : Nat} (hs : (nat n).size ≤ 1099511627776) : Ev (fun k => exact_words.f k (nat n)) (d64 n) := by
  have := words_ev (nat n) hs
  rwa [bval_nat, Int.toNat_natCast] at this
theorem set_reverse (l : List Int) (p : Nat) (v : Int) (h : p < l.length) : (l.set p v).reverse = l.reverse.set (l.length - 1 - p) v := by
  apply List.ext_getElem?
  intro j
  rcases Nat.lt_or_ge j l.length with hj | hj
  · rw [List.getElem?_reverse (by rw [List.length_set]; exact hj), List.length_set, List.getElem?_set, List.getElem?_set, List.length_reverse]
    by_cases e : p = l.length - 1 - j
    · have e' : l.length - 1 - p = j := by omega
      rw [if_pos e, if_pos h, if_pos e', if_pos (by omega)]
    · have e' : ¬ l.length - 1 - p = j := by omega
      rw [if_neg e, if_neg e', List.getElem?_reverse hj]
  · rw [List.getElem?_eq_none (by simp; omega), List.getElem?_eq_none (by simp; omega)]
theorem pack_l2 (b : List Int) (hd : Dig 256 b) (hb : b.length < 9223372036854775807) (n : Nat) (hv : vB 256 b.reverse = n) (hn : n ≠ 0) : ∀ (d i : Nat), i + d = b.length → (∀ j : Nat, j < i → rd b (j : Int) = 0) → Ev (fun k => exact_pack.l2 k b (i : Int)) (nat n) := by
  intro d
  induction d with
  | zero =>
    intro i hi hz
    have := vB_zero 256 (l := b.reverse) (fun j hj => by
      rw [List.length_reverse] at hj
      rw [rd_reverse _ _ hj]
      exact hz _ (by omega))
    omega
  | succ d ih =>
    intro i hi hz
    by_cases h0 : rd b (i : Int) = 0
    · have e1 : wrap64 ((i : Int) + 1) = ((i + 1 : Nat) : Int) := by rw [w64 (by omega) (by omega)]; omega
      refine Ev.step (f := fun k => exact_pack.l2 k b ((i + 1 : Nat) : Int)) (fun k => ?_) (ih (i + 1) (by omega) (fun j hj => ?_))
      · simp only [exact_pack.l2, e1]
        rw [if_pos (by omega), if_pos (by omega), if_pos h0]
      · rcases Nat.lt_or_ge j i with h | h
        · exact hz j h
        · have : j = i := by omega
          subst this
          exact h0
    · refine Ev.step (f := fun _ => some (nat n)) (fun k => ?_) (Ev.now _)
      simp only [exact_pack.l2]
      rw [if_pos (by omega), if_pos (by omega), if_neg h0, if_pos (by omega), Int.toNat_natCast]
      congr 1
      unfold nat
      congr 1
      have hu : (b.drop i).reverse = d8 n := by
        refine d8_unique (Dig_reverse (Dig_drop hd _)) (fun hp => ?_) ?_
        · rw [List.length_reverse] at hp ⊢
          rw [rd_reverse _ _ (by omega), rd_drop]
          have : i + ((b.drop i).length - 1 - ((b.drop i).length - 1)) = i := by omega
          rw [this]
          exact h0
        · rw [← hv]
          conv => rhs; rw [← List.take_append_drop i b]
          rw [List.reverse_append, vB_append, vB_zero 256 (l := (b.take i).reverse) (fun j hj => ?_)]
          · simp
          · rw [List.length_reverse] at hj
            have hl : (b.take i).length = i := by rw [List.length_take]; omega
            rw [rd_reverse _ _ hj, rd_take _ _ _ (by omega)]
            exact hz _ (by omega)
      rw [← hu, List.reverse_reverse]
theorem byte_of (x : Int) (s : Nat) (hs : s < 8) (h0 : 0 ≤ x) (h1 : x < B64) : shr .u64 x ((8 * s : Nat) : Int) % 256 = x / 256 ^ s % 256 := by
  unfold shr
  rw [Int.toNat_natCast]
  have : min (8 * s) IntKind.u64.bits = 8 * s := Nat.min_eq_left (by show 8 * s ≤ 64; omega)
  rw [this, Int.pow_mul]
  rfl
theorem byte_step (x : Int) (s : Nat) (hs : s < 8) (h0 : 0 ≤ x) (h1 : x < B64) : x % 256 ^ (s + 1) = x % 256 ^ s + 256 ^ s * (x / 256 ^ s % 256) := by
  have : s = 0 ∨ s = 1 ∨ s = 2 ∨ s = 3 ∨ s = 4 ∨ s = 5 ∨ s = 6 ∨ s = 7 := by omega
  rcases this with rfl | rfl | rfl | rfl | rfl | rfl | rfl | rfl <;> simp <;> omega
def Packed (w b : List Int) (i s : Nat) : Prop :=
  b.length = 8 * w.length ∧ Dig 256 b ∧ vB 256 b.reverse = vB B64 (w.take i) + B64 ^ i * (rd w (i : Int) % 256 ^ s) ∧ ∀ j : Nat, 8 * i + s ≤ j → rd b.reverse (j : Int) = 0
theorem packed_step {w b : List Int} {i s : Nat} (hw : Dig B64 w) (hi : i < w.length) (hs : s < 8) (h : Packed w b i s) :
    8 * i + s < b.length ∧ Packed w (b.set (b.length - 1 - (8 * i + s)) (rd w (i : Int) / 256 ^ s % 256)) i (s + 1) := by
  obtain ⟨hl, hd, hv, hz⟩ := h
  obtain ⟨hx0, hx1⟩ := Dig_rd hw i hi
  have hlt : 8 * i + s < b.length := by omega
  refine ⟨hlt, by rw [List.length_set]; exact hl, Dig_set hd _ (Int.emod_nonneg _ (by decide)) (Int.emod_lt_of_pos _ (by decide)), ?_, fun j hj => ?_⟩
  · rw [set_reverse _ _ _ (by omega)]
    have e : b.length - 1 - (b.length - 1 - (8 * i + s)) = 8 * i + s := by omega
    rw [e, vB_set _ _ _ _ (by rw [List.length_reverse]; exact hlt), hz _ (Nat.le_refl _), hv, byte_step _ s hs hx0 hx1, Int.sub_zero, Int.mul_add, ← pow8, Int.mul_assoc, Int.add_assoc]
  · rw [set_reverse _ _ _ (by omega)]
    have e : b.length - 1 - (b.length - 1 - (8 * i + s)) = 8 * i + s := by omega
    rw [e, rd_set_ne _ _ _ _ (by omega)]
    exact hz j (by omega)
theorem packed_word {w b : List Int} {i : Nat} (hw : Dig B64 w) (hi : i < w.length) (h : Packed w b i 8) : Packed w b (i + 1) 0 := by
  obtain ⟨hl, hd, hv, hz⟩ := h
  obtain ⟨hx0, hx1⟩ := Dig_rd hw i hi
  refine ⟨hl, hd, ?_, fun j hj => hz j (by omega)⟩
  rw [hv, vB_take_succ _ _ _ hi]
  have : rd w (i : Int) % 256 ^ 8 = rd w (i : Int) := Int.emod_eq_of_lt hx0 hx1
  rw [this]
  simp
theorem pack_l1 (w : List Int) (hw : Dig B64 w) (hl : w.length ≤ 1099511627776) (i : Nat) (hi : i < w.length) (r : ByteArray)
    (next : ∀ b, Packed w b (i + 1) 0 → Ev (fun k => exact_pack.l0 k b w (w.length : Int) ((i + 1 : Nat) : Int)) r) : ∀ (d s : Nat) (b : List Int), s + d = 8 → Packed w b i s →
    Ev (fun k => exact_pack.l1 k b (i : Int) (rd w (i : Int)) w (w.length : Int) (i : Int) (s : Int)) r := by
  obtain ⟨hx0, hx1⟩ := Dig_rd hw i hi
  intro d
  induction d with
  | zero =>
    intro s b hs hp
    have hs : s = 8 := by omega
    subst hs
    refine Ev.step (f := fun k => exact_pack.l0 k b w (w.length : Int) ((i + 1 : Nat) : Int)) (fun k => ?_) (next b (packed_word hw hi hp))
    have c1 : ¬ ((8 : Nat) : Int) < 8 := by omega
    have e1 : wrap64 ((i : Int) + 1) = ((i + 1 : Nat) : Int) := by rw [w64 (by omega) (by omega)]; omega
    simp only [exact_pack.l1, e1]
    rw [if_neg c1]
  | succ d ih =>
    intro s b hs hp
    have hlb := hp.1
    obtain ⟨hlt, hp'⟩ := packed_step hw hi (by omega) hp
    refine Ev.step (f := fun k => exact_pack.l1 k (b.set (b.length - 1 - (8 * i + s)) (rd w (i : Int) / 256 ^ s % 256)) (i : Int) (rd w (i : Int)) w (w.length : Int) (i : Int) ((s + 1 : Nat) : Int)) (fun k => ?_) (ih (s + 1) _ (by omega) hp')
    have c1 : ((s : Nat) : Int) < 8 := by omega
    have c2 : ((b.length - 1 - (8 * i + s) : Nat) : Int) < (b.length : Int) := by omega
    have e0 := byte_of _ s (by omega) hx0 hx1
    have e1 : wrap64 (8 * (s : Int)) = ((8 * s : Nat) : Int) := by rw [w64 (by omega) (by omega)]; omega
    have e2 : wrap64 (wrap64 (wrap64 ((b.length : Int) - 1) - ((8 * i : Nat) : Int)) - (s : Int)) = ((b.length - 1 - (8 * i + s) : Nat) : Int) := by
      clear e1 e0
      rw [w64 (x := (b.length : Int) - 1) (by omega) (by omega), w64 (x := (b.length : Int) - 1 - ((8 * i : Nat) : Int)) (by omega) (by omega), w64 (by omega) (by omega)]
      omega
    have e4 : wrap64 (8 * (i : Int)) = ((8 * i : Nat) : Int) := by clear e0 e1 e2; rw [w64 (by omega) (by omega)]; omega
    have e3 : wrap64 ((s : Int) + 1) = ((s + 1 : Nat) : Int) := by clear e0 e1 e2 e4; rw [w64 (by omega) (by omega)]; omega
    simp only [exact_pack.l1, e1, e4, e2, e3]
    rw [if_pos c1, if_pos (Int.natCast_nonneg _), if_pos (Int.natCast_nonneg _), if_pos c2, Int.toNat_natCast, e0]
theorem pack_l0 (w : List Int) (hw : Dig B64 w) (hl : w.length ≤ 1099511627776) (n : Nat) (hv : vB B64 w = n) (hn : n ≠ 0) : ∀ (d i : Nat) (b : List Int), i + d = w.length → Packed w b i 0 → Ev (fun k => exact_pack.l0 k b w (w.length : Int) (i : Int)) (nat n) := by
  intro d
  induction d with
  | zero =>
    intro i b hi hp
    obtain ⟨h1, h2, h3, h4⟩ := hp
    have hi : i = w.length := by omega
    subst hi
    have e : vB 256 b.reverse = n := by
      rw [h3, List.take_of_length_le (Nat.le_refl _), hv]
      simp
    refine Ev.step (f := fun k => exact_pack.l2 k b ((0 : Nat) : Int)) (fun k => ?_) (pack_l2 b h2 (by omega) n e hn b.length 0 (by omega) (fun j hj => absurd hj (by omega)))
    simp only [exact_pack.l0]
    rw [if_neg (by omega)]
    rfl
  | succ d ih =>
    intro i b hi hp
    refine Ev.step (f := fun k => exact_pack.l1 k b (i : Int) (rd w (i : Int)) w (w.length : Int) (i : Int) ((0 : Nat) : Int)) (fun k => ?_) (pack_l1 w hw hl i (by omega) (nat n) (fun b' hp' => ih (i + 1) b' (by omega) hp') 8 0 b (by omega) hp)
    simp only [exact_pack.l0]
    rw [if_pos (by omega), if_pos (by omega), if_pos (by omega)]
    rfl
theorem pack_ev {l : List Int} (hd : Dig B64 l) (hl : l.length ≤ 1099511627776) : Ev (fun k => exact_pack.f k l) (nat (vB B64 l).toNat) := by
  have hv := vB_nonneg (by decide) hd
  have ht : (d64 (vB B64 l).toNat).length ≤ l.length := dgs_len (by
    have := vB_lt (by decide) hd
    have h1 : (((vB B64 l).toNat : Nat) : Int) < ((18446744073709551614 + 2 : Nat) : Int) ^ l.length := by
      rw [Int.toNat_of_nonneg hv]
      exact this
    exact_mod_cast h1)
  refine Ev.congr (f := fun k => (exact_trim.f k l).bind fun t => if (t.length : Int) = 0 then some (⟨#[]⟩ : ByteArray) else if 0 ≤ wrap64 (8 * (t.length : Int)) then (if (wrap64 (8 * (t.length : Int)) : Int).toNat ≤ 281474976710656 then exact_pack.l0 k (List.replicate (wrap64 (8 * (t.length : Int)) : Int).toNat 0) t (t.length : Int) 0 else none) else none) (fun k => rfl) (Ev.bind (trim_ev hd (by omega)) ?_)
  generalize hn : (vB B64 l).toNat = n at *
  by_cases h0 : n = 0
  · subst h0
    rw [d64_zero, nat_zero]
    exact Ev.now _
  · have hne : (d64 n).length ≠ 0 := by
      intro h
      have := d64_val n
      rw [List.eq_nil_of_length_eq_zero h] at this
      simp [vB] at this
      omega
    have e1 : wrap64 (8 * ((d64 n).length : Int)) = ((8 * (d64 n).length : Nat) : Int) := by rw [w64 (by omega) (by omega)]; omega
    refine Ev.congr (f := fun k => exact_pack.l0 k (List.replicate (8 * (d64 n).length) 0) (d64 n) ((d64 n).length : Int) ((0 : Nat) : Int)) (fun k => ?_) (pack_l0 (d64 n) (d64_dig n) (by omega) n (d64_val n) h0 (d64 n).length 0 _ (by omega) ⟨by simp, Dig_replicate (by decide) _, ?_, fun j _ => ?_⟩)
    · rw [e1, if_neg (by omega), if_pos (by omega), Int.toNat_natCast, if_pos (by omega)]
      rfl
    · rw [List.reverse_replicate, vB_replicate]
      simp [vB]
    · rw [List.reverse_replicate, rd_replicate]
end Go.Proofs.YtohkmnbnjacfaaaN
set_option linter.unusedVariables false
namespace Go.Proofs.YtohkmnbnjacfaaaN
open Go.RowKit Go.Proofs.Ytohkmnbnjacfaaa.All Go.Proofs.YtohkmnbnjacfaaaW.PrintWords Go.Proofs.YtohkmnbnjacfaaaW.PrintLast Go.Proofs.YtohkmnbnjacfaaaW.PrintMore
theorem mul_range {a b A B : Int} (a0 : 0 ≤ a) (a1 : a ≤ A) (b0 : 0 ≤ b) (b1 : b ≤ B) : 0 ≤ a * b ∧ a * b ≤ A * B :=
  ⟨Int.mul_nonneg a0 b0, Int.le_trans (Int.mul_le_mul_of_nonneg_left b1 a0) (Int.mul_le_mul_of_nonneg_right a1 (by omega))⟩
theorem and_low {x : Int} (h0 : 0 ≤ x) (h1 : x < B64) : Go.bits .and .u64 x 4294967295 = x % 4294967296 :=
  bits_mask .u64 64 (by decide) wraps_u64 32 (by decide) x h0 (by simpa using h1)
theorem mul64_eq {x y : Int} (x0 : 0 ≤ x) (x1 : x < B64) (y0 : 0 ≤ y) (y1 : y < B64) : bits_Mul64.f x y = some (x * y / B64, x * y % B64) := by
  have x1' : x < 18446744073709551616 := x1
  have y1' : y < 18446744073709551616 := y1
  show bits_Mul64.f x y = some (x * y / 18446744073709551616, x * y % 18446744073709551616)
  obtain ⟨a, ha⟩ : ∃ a, a = x / 4294967296 := ⟨_, rfl⟩
  obtain ⟨b, hb⟩ : ∃ b, b = x % 4294967296 := ⟨_, rfl⟩
  obtain ⟨c, hc⟩ : ∃ c, c = y / 4294967296 := ⟨_, rfl⟩
  obtain ⟨d, hd⟩ : ∃ d, d = y % 4294967296 := ⟨_, rfl⟩
  have hx : x = a * 4294967296 + b := by omega
  have hy : y = c * 4294967296 + d := by omega
  have a0 : 0 ≤ a ∧ a ≤ 4294967295 := by omega
  have b0 : 0 ≤ b ∧ b ≤ 4294967295 := by omega
  have c0 : 0 ≤ c ∧ c ≤ 4294967295 := by omega
  have d0 : 0 ≤ d ∧ d ≤ 4294967295 := by omega
  have hac := mul_range a0.1 a0.2 c0.1 c0.2
  have had := mul_range a0.1 a0.2 d0.1 d0.2
  have hbc := mul_range b0.1 b0.2 c0.1 c0.2
  have hbd := mul_range b0.1 b0.2 d0.1 d0.2
  have hp : x * y = a * c * 18446744073709551616 + (a * d + b * c) * 4294967296 + b * d := by
    rw [hx, hy, Int.add_mul, Int.mul_add, Int.mul_add, Int.add_mul]
    have e1 : a * 4294967296 * (c * 4294967296) = a * c * 18446744073709551616 := by
      rw [Int.mul_assoc, Int.mul_left_comm 4294967296 c, Int.mul_assoc a c]
      congr 1
    have e2 : a * 4294967296 * d = a * d * 4294967296 := by rw [Int.mul_assoc, Int.mul_comm 4294967296 d, ← Int.mul_assoc]
    have e3 : b * (c * 4294967296) = b * c * 4294967296 := by rw [Int.mul_assoc]
    rw [e1, e2, e3]
    omega
  unfold bits_Mul64.f
  rw [and_low x0 x1, and_low y0 y1, ← ha, ← hb, ← hc, ← hd, hp]
  generalize hA : a * c = p at *
  generalize hD : a * d = q at *
  generalize hC : b * c = r at *
  generalize hE : b * d = s at *
  clear hA hD hC hE hp hx hy ha hb hc hd x0 x1 y0 y1 x1' y1'
  have h1 : (4294967295 : Int) * 4294967295 = 18446744065119617025 := rfl
  rw [h1] at *
  rw [u64 (x := s) (by omega) (by omega), u64 (x := q) (by omega) (by omega), u64 (x := q + s / 4294967296) (by omega) (by omega), and_low (x := q + s / 4294967296) (by omega) (by show _ < (18446744073709551616 : Int); omega),
    u64 (x := r) (by omega) (by omega), u64 (x := (q + s / 4294967296) % 4294967296 + r) (by omega) (by omega), u64 (x := p) (by omega) (by omega),
    u64 (x := p + (q + s / 4294967296) / 4294967296) (by omega) (by omega)]
  have e : p + (q + s / 4294967296) / 4294967296 + ((q + s / 4294967296) % 4294967296 + r) / 4294967296 = (p * 18446744073709551616 + (q + r) * 4294967296 + s) / 18446744073709551616 := by omega
  rw [e, u64 (x := (p * 18446744073709551616 + (q + r) * 4294967296 + s) / 18446744073709551616) (by clear e; omega) (by clear e; omega), u64_mod]
theorem add64_eq {x y c : Int} (x0 : 0 ≤ x) (y0 : 0 ≤ y) (c0 : 0 ≤ c) (c1 : c ≤ 1) : bits_Add64.f x y c = some ((x + y + c) % B64, (x + y + c) / B64) := by
  unfold bits_Add64.f
  rw [if_pos ⟨x0, y0, c0, c1⟩]
theorem mul_add {x y o c : Int} (x0 : 0 ≤ x) (x1 : x < B64) (y0 : 0 ≤ y) (y1 : y < B64) (o0 : 0 ≤ o) (o1 : o < B64) (c0 : 0 ≤ c) (c1 : c < B64) :
    IntKind.u64.wrap (IntKind.u64.wrap (x * y / B64 + (x * y % B64 + o + 0) / B64) + ((x * y % B64 + o + 0) % B64 + c + 0) / B64) = (x * y + o + c) / B64 ∧ ((x * y % B64 + o + 0) % B64 + c + 0) % B64 = (x * y + o + c) % B64 ∧ 0 ≤ (x * y + o + c) / B64 ∧ (x * y + o + c) / B64 < B64 := by
  have x1' : x < 18446744073709551616 := x1
  have y1' : y < 18446744073709551616 := y1
  have o1' : o < 18446744073709551616 := o1
  have c1' : c < 18446744073709551616 := c1
  have hp := mul_range x0 (show x ≤ 18446744073709551615 by omega) y0 (show y ≤ 18446744073709551615 by omega)
  have h1 : (18446744073709551615 : Int) * 18446744073709551615 = 340282366920938463426481119284349108225 := rfl
  rw [h1] at hp
  show IntKind.u64.wrap (IntKind.u64.wrap (x * y / 18446744073709551616 + (x * y % 18446744073709551616 + o + 0) / 18446744073709551616) + ((x * y % 18446744073709551616 + o + 0) % 18446744073709551616 + c + 0) / 18446744073709551616) = (x * y + o + c) / 18446744073709551616 ∧ ((x * y % 18446744073709551616 + o + 0) % 18446744073709551616 + c + 0) % 18446744073709551616 = (x * y + o + c) % 18446744073709551616 ∧ 0 ≤ (x * y + o + c) / 18446744073709551616 ∧ (x * y + o + c) / 18446744073709551616 < 18446744073709551616
  generalize x * y = p at *
  clear x0 x1 x1' y0 y1 y1' o1 c1 h1
  have a1 : 0 ≤ p / 18446744073709551616 + (p % 18446744073709551616 + o + 0) / 18446744073709551616 ∧ p / 18446744073709551616 + (p % 18446744073709551616 + o + 0) / 18446744073709551616 < 18446744073709551616 := by omega
  rw [u64 a1.1 a1.2]
  have a2 : p / 18446744073709551616 + (p % 18446744073709551616 + o + 0) / 18446744073709551616 + ((p % 18446744073709551616 + o + 0) % 18446744073709551616 + c + 0) / 18446744073709551616 = (p + o + c) / 18446744073709551616 := by omega
  have a3 : 0 ≤ (p + o + c) / 18446744073709551616 ∧ (p + o + c) / 18446744073709551616 < 18446744073709551616 := by omega
  rw [a2, u64 a3.1 a3.2]
  refine ⟨rfl, by omega, a3.1, a3.2⟩
theorem take_succ (B : Int) (l : List Int) (i : Nat) : vB B (l.take (i + 1)) = vB B (l.take i) + B ^ i * rd l (i : Int) := by
  rcases Nat.lt_or_ge i l.length with h | h
  · exact vB_take_succ B l i h
  · rw [List.take_of_length_le (by omega), List.take_of_length_le h, rd_nat, List.getD_eq_getElem?_getD, List.getElem?_eq_none h]
    simp
theorem rd_far (l : List Int) (i : Nat) (h : l.length ≤ i) : rd l (i : Int) = 0 := by
  rw [rd_nat, List.getD_eq_getElem?_getD, List.getElem?_eq_none h]
  rfl
theorem vB_all (B : Int) (l : List Int) (i : Nat) (h : l.length ≤ i) : vB B (l.take i) = vB B l := by rw [List.take_of_length_le h]
def MulOut (a b out : List Int) (i : Nat) : Prop :=
  out.length = a.length + b.length ∧ Dig B64 out ∧ vB B64 out = vB B64 (a.take i) * vB B64 b ∧ ∀ j : Nat, i + b.length ≤ j → rd out (j : Int) = 0
def MulIn (a b out : List Int) (i j : Nat) (c : Int) : Prop :=
  out.length = a.length + b.length ∧ Dig B64 out ∧ (0 ≤ c ∧ c < B64) ∧ vB B64 out + B64 ^ (i + j) * c = vB B64 (a.take i) * vB B64 b + B64 ^ i * (rd a (i : Int) * vB B64 (b.take j)) ∧ ∀ n : Nat, i + b.length ≤ n → rd out (n : Int) = 0
theorem mul_in {a b out : List Int} {i j : Nat} {c : Int} (ha : Dig B64 a) (hb : Dig B64 b) (hi : i < a.length) (hj : j < b.length) (h : MulIn a b out i j c) :
    MulIn a b (out.set (i + j) ((rd a (i : Int) * rd b (j : Int) + rd out ((i + j : Nat) : Int) + c) % B64)) i (j + 1) ((rd a (i : Int) * rd b (j : Int) + rd out ((i + j : Nat) : Int) + c) / B64) := by
  obtain ⟨hl, hd, hc, hv, hz⟩ := h
  obtain ⟨x0, x1⟩ := Dig_rd ha i hi
  obtain ⟨y0, y1⟩ := Dig_rd hb j hj
  obtain ⟨o0, o1⟩ := Dig_rd hd (i + j) (by omega)
  obtain ⟨-, -, n0, n1⟩ := mul_add x0 x1 y0 y1 o0 o1 hc.1 hc.2
  refine ⟨by rw [List.length_set]; exact hl, Dig_set hd _ (Int.emod_nonneg _ (by decide)) (Int.emod_lt_of_pos _ (by decide)), ⟨n0, n1⟩, ?_, fun n hn => ?_⟩
  · rw [vB_set _ _ _ _ (by omega), take_succ, ← Nat.add_assoc, Int.pow_succ]
    have e := Int.emod_add_mul_ediv (rd a (i : Int) * rd b (j : Int) + rd out ((i + j : Nat) : Int) + c) B64
    generalize (rd a (i : Int) * rd b (j : Int) + rd out ((i + j : Nat) : Int) + c) / B64 = q at *
    generalize (rd a (i : Int) * rd b (j : Int) + rd out ((i + j : Nat) : Int) + c) % B64 = r at *
    have er : r = rd a (i : Int) * rd b (j : Int) + rd out ((i + j : Nat) : Int) + c - B64 * q := by omega
    rw [er]
    have ep : (B64 : Int) ^ (i + j) = B64 ^ i * B64 ^ j := Int.pow_add _ _ _
    rw [ep] at hv ⊢
    clear ep
    generalize vB B64 out = V at *
    generalize vB B64 (List.take i a) * vB B64 b = W at *
    generalize vB B64 (List.take j b) = U at *
    generalize (B64 : Int) ^ i = P at *
    generalize (B64 : Int) ^ j = Q at *
    generalize rd a (i : Int) = x at *
    generalize rd b (j : Int) = y at *
    generalize rd out ((i + j : Nat) : Int) = o at *
    have e1 : P * Q * (x * y + o + c - B64 * q - o) = P * Q * (x * y) + P * Q * c - P * Q * B64 * q := by
      rw [show x * y + o + c - B64 * q - o = x * y + c - B64 * q by omega, Int.mul_sub, Int.mul_add, Int.mul_assoc (P * Q) B64 q]
    have e2 : P * (x * (U + Q * y)) = P * (x * U) + P * Q * (x * y) := by
      rw [Int.mul_add x, Int.mul_add P, Int.mul_left_comm x Q y, Int.mul_assoc P Q]
    rw [e1, e2]
    omega
  · rw [rd_set_ne _ _ _ _ (by omega)]
    exact hz n hn
theorem mulWords_l1 (a b : List Int) (ha : Dig B64 a) (hb : Dig B64 b) (la : a.length ≤ 1099511627776) (lb : b.length ≤ 1099511627776) (i : Nat) (hi : i < a.length) (r : List Int)
    (next : ∀ out, MulOut a b out (i + 1) → Ev (fun k => exact_mulWords.l0 k b out a (a.length : Int) ((i + 1 : Nat) : Int)) r) : ∀ (d j : Nat) (out : List Int) (c : Int), j + d = b.length → MulIn a b out i j c →
    Ev (fun k => exact_mulWords.l1 k b out (i : Int) (rd a (i : Int)) c a (a.length : Int) (i : Int) b (b.length : Int) (j : Int)) r := by
  intro d
  induction d with
  | zero =>
    intro j out c hj h
    have hj : j = b.length := by omega
    subst hj
    have hl := h.1
    have c1 : i + b.length < out.length := by omega
    have c2 : ((i + b.length : Nat) : Int) < (out.length : Int) := Int.ofNat_lt.2 c1
    have e1 : wrap64 ((i : Int) + (b.length : Int)) = ((i + b.length : Nat) : Int) := by rw [w64 (by omega) (by omega)]; omega
    have e2 : wrap64 ((i : Int) + 1) = ((i + 1 : Nat) : Int) := by clear e1; rw [w64 (by omega) (by omega)]; omega
    obtain ⟨-, hd, hc, hv, hz⟩ := h
    refine Ev.step (f := fun k => exact_mulWords.l0 k b (out.set (i + b.length) c) a (a.length : Int) ((i + 1 : Nat) : Int)) (fun k => ?_) (next _ ⟨by rw [List.length_set]; exact hl, Dig_set hd _ hc.1 hc.2, ?_, fun j hj => ?_⟩)
    · simp only [exact_mulWords.l1, e1, e2]
      rw [if_neg (Int.lt_irrefl _), if_pos (Int.natCast_nonneg _), if_pos c2, Int.toNat_natCast]
    · rw [vB_set _ _ _ _ c1, hz _ (Nat.le_refl _), Int.sub_zero, hv, take_succ, vB_all _ _ _ (Nat.le_refl _), Int.add_mul, Int.mul_assoc]
    · rw [rd_set_ne _ _ _ _ (by clear hv e1 e2; omega)]
      exact hz j (by clear hv e1 e2; omega)
  | succ d ih =>
    intro j out c hj h
    have hj' : j < b.length := by omega
    have hn := mul_in ha hb hi hj' h
    have hl := h.1
    have c1 : i + j < out.length := by omega
    have c2 : ((i + j : Nat) : Int) < (out.length : Int) := Int.ofNat_lt.2 c1
    have c3 : (j : Int) < (b.length : Int) := Int.ofNat_lt.2 hj'
    have c4 : j + 1 + d = b.length := by omega
    have e1 : wrap64 ((i : Int) + (j : Int)) = ((i + j : Nat) : Int) := by rw [w64 (by omega) (by omega)]; omega
    have e2 : wrap64 ((j : Int) + 1) = ((j + 1 : Nat) : Int) := by clear e1; rw [w64 (by omega) (by omega)]; omega
    obtain ⟨-, hd, hc, -, -⟩ := h
    obtain ⟨x0, x1⟩ := Dig_rd ha i hi
    obtain ⟨y0, y1⟩ := Dig_rd hb j hj'
    obtain ⟨o0, o1⟩ := Dig_rd hd (i + j) c1
    obtain ⟨m0, m1, -, -⟩ := mul_add x0 x1 y0 y1 o0 o1 hc.1 hc.2
    have a1 := mul64_eq x0 x1 y0 y1
    have a2 := add64_eq (Int.emod_nonneg (rd a (i : Int) * rd b (j : Int)) (show (B64 : Int) ≠ 0 by decide)) o0 (Int.le_refl 0) (by decide)
    have a3 := add64_eq (Int.emod_nonneg (rd a (i : Int) * rd b (j : Int) % B64 + rd out ((i + j : Nat) : Int) + 0) (show (B64 : Int) ≠ 0 by decide)) hc.1 (Int.le_refl 0) (by decide)
    refine Ev.step (f := fun k => exact_mulWords.l1 k b (out.set (i + j) ((rd a (i : Int) * rd b (j : Int) + rd out ((i + j : Nat) : Int) + c) % B64)) (i : Int) (rd a (i : Int)) ((rd a (i : Int) * rd b (j : Int) + rd out ((i + j : Nat) : Int) + c) / B64) a (a.length : Int) (i : Int) b (b.length : Int) ((j + 1 : Nat) : Int)) (fun k => ?_) (ih (j + 1) _ _ c4 hn)
    simp only [exact_mulWords.l1, e1, e2]
    rw [if_pos c3, if_pos (Int.natCast_nonneg _), if_pos c3, a1, Option.bind_some, if_pos (Int.natCast_nonneg _), if_pos c2, a2, Option.bind_some, a3, Option.bind_some, m0, m1, Int.toNat_natCast]
theorem mulWords_l0 (a b : List Int) (ha : Dig B64 a) (hb : Dig B64 b) (la : a.length ≤ 1099511627776) (lb : b.length ≤ 1099511627776) : ∀ (d i : Nat) (out : List Int), i + d = a.length → MulOut a b out i →
    Ev (fun k => exact_mulWords.l0 k b out a (a.length : Int) (i : Int)) (d64 (vB B64 a * vB B64 b).toNat) := by
  intro d
  induction d with
  | zero =>
    intro i out hi h
    have hi : i = a.length := by omega
    subst hi
    obtain ⟨hl, hd, hv, hz⟩ := h
    rw [vB_all _ _ _ (Nat.le_refl _)] at hv
    refine Ev.step (f := fun k => (exact_trim.f k out).bind fun t => some t) (fun k => ?_) (Ev.bind (trim_ev hd (by omega)) ?_)
    · simp only [exact_mulWords.l0]
      rw [if_neg (Int.lt_irrefl _)]
    · rw [hv]
      exact Ev.now _
  | succ d ih =>
    intro i out hi h
    have hi' : i < a.length := by omega
    have c1 : (i : Int) < (a.length : Int) := Int.ofNat_lt.2 hi'
    obtain ⟨hl, hd, hv, hz⟩ := h
    refine Ev.step (f := fun k => exact_mulWords.l1 k b out (i : Int) (rd a (i : Int)) 0 a (a.length : Int) (i : Int) b (b.length : Int) ((0 : Nat) : Int)) (fun k => ?_) (mulWords_l1 a b ha hb la lb i hi' _ (fun out' h' => ih (i + 1) out' (by omega) h') b.length 0 out 0 (by omega) ⟨hl, hd, ⟨by decide, by decide⟩, ?_, hz⟩)
    · simp only [exact_mulWords.l0]
      rw [if_pos c1, if_pos (Int.natCast_nonneg _), if_pos c1]
      rfl
    · rw [hv]
      simp [vB]
theorem mulWords_ev {a b : List Int} (ha : Dig B64 a) (hb : Dig B64 b) (la : a.length ≤ 1099511627776) (lb : b.length ≤ 1099511627776) : Ev (fun k => exact_mulWords.f k a b) (d64 (vB B64 a * vB B64 b).toNat) := by
  have e1 : wrap64 ((a.length : Int) + (b.length : Int)) = ((a.length + b.length : Nat) : Int) := by rw [w64 (by omega) (by omega)]; omega
  refine Ev.congr (f := fun k => exact_mulWords.l0 k b (List.replicate (a.length + b.length) 0) a (a.length : Int) ((0 : Nat) : Int)) (fun k => ?_) (mulWords_l0 a b ha hb la lb a.length 0 _ (by omega) ⟨by simp, Dig_replicate (by decide) _, ?_, fun j _ => rd_replicate _ _⟩)
  · unfold exact_mulWords.f
    rw [e1, if_pos (Int.natCast_nonneg _), Int.toNat_natCast, if_pos (by omega)]
    rfl
  · rw [vB_replicate]
    simp [vB]
theorem mulWords_d64 {m n : Nat} (lm : (d64 m).length ≤ 1099511627776) (ln : (d64 n).length ≤ 1099511627776) : Ev (fun k => exact_mulWords.f k (d64 m) (d64 n)) (d64 (m * n)) := by
  have := mulWords_ev (d64_dig m) (d64_dig n) lm ln
  rw [d64_val, d64_val] at this
  rwa [show ((m : Int) * (n : Int)).toNat = m * n by rw [← Int.natCast_mul, Int.toNat_natCast]] at this
end Go.Proofs.YtohkmnbnjacfaaaN
set_option linter.unusedVariables false
namespace Go.Proofs.YtohkmnbnjacfaaaN
open Go.RowKit Go.Proofs.Ytohkmnbnjacfaaa.All Go.Proofs.YtohkmnbnjacfaaaW.PrintWords Go.Proofs.YtohkmnbnjacfaaaW.PrintLast Go.Proofs.YtohkmnbnjacfaaaW.PrintMore
theorem size_mono {m n : Nat} (h : m ≤ n) : (nat m).size ≤ (nat n).size := nat_size_le.2 (Nat.lt_of_le_of_lt h (nat_lt_size n))
theorem size_add {m n : Nat} : (nat (m + n)).size ≤ max (nat m).size (nat n).size + 1 := by
  apply nat_size_le.2
  have h1 := nat_lt_size m
  have h2 := nat_lt_size n
  have h3 : 256 ^ (nat m).size ≤ 256 ^ max (nat m).size (nat n).size := Nat.pow_le_pow_right (by decide) (Nat.le_max_left _ _)
  have h4 : 256 ^ (nat n).size ≤ 256 ^ max (nat m).size (nat n).size := Nat.pow_le_pow_right (by decide) (Nat.le_max_right _ _)
  rw [Nat.pow_succ]
  generalize 256 ^ max (nat m).size (nat n).size = P at *
  generalize 256 ^ (nat m).size = Q at *
  generalize 256 ^ (nat n).size = R at *
  omega
theorem size_mul {m n : Nat} : (nat (m * n)).size ≤ (nat m).size + (nat n).size := by
  apply nat_size_le.2
  rw [Nat.pow_add]
  have h1 := nat_lt_size m
  have h2 := nat_lt_size n
  exact Nat.lt_of_le_of_lt (Nat.mul_le_mul_right _ (Nat.le_of_lt h1)) (Nat.mul_lt_mul_of_pos_left h2 (Nat.lt_of_le_of_lt (Nat.zero_le _) h1))
theorem words_len (n : Nat) : (d64 n).length ≤ ((nat n).size + 7) / 8 := by
  apply dgs_len
  have h1 := nat_lt_size n
  have h2 : 256 ^ (nat n).size ≤ 256 ^ (8 * (((nat n).size + 7) / 8)) := Nat.pow_le_pow_right (by decide) (by omega)
  rw [Nat.pow_mul] at h2
  exact Nat.lt_of_lt_of_le h1 h2
def AddOut (x y out : List Int) (i : Nat) (c : Int) : Prop :=
  out.length = x.length + 1 ∧ Dig B64 out ∧ (0 ≤ c ∧ c ≤ 1) ∧ vB B64 out + B64 ^ i * c = vB B64 (x.take i) + vB B64 (y.take i) ∧ ∀ n : Nat, i ≤ n → rd out (n : Int) = 0
theorem add_range {x y c : Int} (x0 : 0 ≤ x) (x1 : x < B64) (y0 : 0 ≤ y) (y1 : y < B64) (c0 : 0 ≤ c) (c1 : c ≤ 1) : 0 ≤ (x + y + c) / B64 ∧ (x + y + c) / B64 ≤ 1 := by
  have x1' : x < 18446744073709551616 := x1
  have y1' : y < 18446744073709551616 := y1
  show 0 ≤ (x + y + c) / 18446744073709551616 ∧ (x + y + c) / 18446744073709551616 ≤ 1
  omega
theorem add_out {x y out : List Int} {i : Nat} {c : Int} (hx : Dig B64 x) (hy : Dig B64 y) (hi : i < x.length) (h : AddOut x y out i c) :
    AddOut x y (out.set i ((rd x (i : Int) + rd y (i : Int) + c) % B64)) (i + 1) ((rd x (i : Int) + rd y (i : Int) + c) / B64) := by
  obtain ⟨hl, hd, hc, hv, hz⟩ := h
  obtain ⟨x0, x1⟩ := Dig_rd hx i hi
  obtain ⟨y0, y1⟩ := Dig_rd0 (by decide) hy i
  refine ⟨by rw [List.length_set]; exact hl, Dig_set hd _ (Int.emod_nonneg _ (by decide)) (Int.emod_lt_of_pos _ (by decide)), add_range x0 x1 y0 y1 hc.1 hc.2, ?_, fun n hn => ?_⟩
  · rw [vB_set _ _ _ _ (by clear hv; omega), hz _ (Nat.le_refl _), Int.sub_zero, take_succ, take_succ, Int.pow_succ]
    have e := Int.emod_add_mul_ediv (rd x (i : Int) + rd y (i : Int) + c) B64
    generalize (rd x (i : Int) + rd y (i : Int) + c) / B64 = q at *
    generalize (rd x (i : Int) + rd y (i : Int) + c) % B64 = r at *
    have er : r = rd x (i : Int) + rd y (i : Int) + c - B64 * q := by clear hv; omega
    rw [er, Int.mul_sub, Int.mul_add, Int.mul_add, Int.mul_assoc (B64 ^ i) B64 q]
    generalize (B64 : Int) ^ i = P at *
    omega
  · rw [rd_set_ne _ _ _ _ (by clear hv; omega)]
    exact hz n (by clear hv; omega)
theorem NatAdd_l0 (x y : List Int) (hx : Dig B64 x) (hy : Dig B64 y) (lx : x.length ≤ 1099511627775) (hyx : y.length ≤ x.length) (n : Nat) (hn : vB B64 x + vB B64 y = n) : ∀ (d i : Nat) (out : List Int) (c : Int), i + d = x.length → AddOut x y out i c →
    Ev (fun k => exact_NatAdd.l0 k x y out c (x.length : Int) (i : Int)) (nat n) := by
  intro d
  induction d with
  | zero =>
    intro i out c hi h
    have hi : i = x.length := by omega
    subst hi
    have hl := h.1
    have c1 : (x.length : Int) < (out.length : Int) := by omega
    have c2 : x.length < out.length := by omega
    have c3 : out.length ≤ 1099511627776 := by omega
    obtain ⟨-, hd, hc, hv, hz⟩ := h
    have hd' : Dig B64 (out.set x.length c) := Dig_set hd _ hc.1 (by have := hc.2; exact Int.lt_of_le_of_lt this (by decide))
    have hv' : vB B64 (out.set x.length c) = n := by
      rw [vB_set _ _ _ _ c2, hz _ (Nat.le_refl _), Int.sub_zero, hv, vB_all _ _ _ (Nat.le_refl _), vB_all _ _ _ hyx, hn]
    have := pack_ev hd' (by rw [List.length_set]; exact c3)
    rw [hv', Int.toNat_natCast] at this
    refine Ev.step (f := fun k => (exact_pack.f k (out.set x.length c)).bind fun t => some t) (fun k => ?_) (Ev.bind this (Ev.now _))
    simp only [exact_NatAdd.l0]
    rw [if_neg (Int.lt_irrefl _), if_pos (Int.natCast_nonneg _), if_pos c1, Int.toNat_natCast]
  | succ d ih =>
    intro i out c hi h
    have hi' : i < x.length := by omega
    have c0 : i + 1 + d = x.length := by omega
    have c1 : (i : Int) < (x.length : Int) := Int.ofNat_lt.2 hi'
    have hl := h.1
    have c2 : (i : Int) < (out.length : Int) := by omega
    have c3 : ¬ (i : Int) < (y.length : Int) → rd y (i : Int) = 0 := fun h => rd_far y i (by omega)
    have e1 : wrap64 ((i : Int) + 1) = ((i + 1 : Nat) : Int) := by clear c3; rw [w64 (by omega) (by omega)]; omega
    have hn' := add_out hx hy hi' h
    obtain ⟨-, hd, hc, -, -⟩ := h
    obtain ⟨x0, x1⟩ := Dig_rd hx i hi'
    obtain ⟨y0, y1⟩ := Dig_rd0 (by decide) hy i
    have ea := add64_eq x0 y0 hc.1 hc.2
    refine Ev.step (f := fun k => exact_NatAdd.l0 k x y (out.set i ((rd x (i : Int) + rd y (i : Int) + c) % B64)) ((rd x (i : Int) + rd y (i : Int) + c) / B64) (x.length : Int) ((i + 1 : Nat) : Int)) (fun k => ?_) (ih (i + 1) _ _ c0 hn')
    simp only [exact_NatAdd.l0, e1]
    rw [if_pos c1]
    by_cases hy' : (i : Int) < (y.length : Int)
    · rw [if_pos hy', if_pos (Int.natCast_nonneg _), if_pos c1, ea, Option.bind_some, if_pos c2, Int.toNat_natCast]
    · rw [c3 hy'] at ea
      rw [if_neg hy', if_pos (Int.natCast_nonneg _), if_pos c1, ea, Option.bind_some, if_pos c2, Int.toNat_natCast, c3 hy']
theorem NatAdd_j0 {m n : Nat} (hm : (d64 m).length ≤ 1099511627775) (h : (d64 n).length ≤ (d64 m).length) : Ev (fun k => exact_NatAdd.j0 k (d64 m) (d64 n)) (nat (m + n)) := by
  have e1 : wrap64 (((d64 m).length : Int) + 1) = (((d64 m).length + 1 : Nat) : Int) := by rw [w64 (by omega) (by omega)]; omega
  refine Ev.step (f := fun k => exact_NatAdd.l0 k (d64 m) (d64 n) (List.replicate ((d64 m).length + 1) 0) 0 ((d64 m).length : Int) ((0 : Nat) : Int)) (fun k => ?_) (NatAdd_l0 (d64 m) (d64 n) (d64_dig m) (d64_dig n) hm h (m + n) (by rw [d64_val, d64_val, Int.natCast_add]) (d64 m).length 0 _ _ (Nat.zero_add _) ⟨by simp, Dig_replicate (by decide) _, ⟨by decide, by decide⟩, ?_, fun j _ => rd_replicate _ _⟩)
  · simp only [exact_NatAdd.j0, e1]
    rw [if_pos (Int.natCast_nonneg _), Int.toNat_natCast, if_pos (by omega)]
    rfl
  · rw [vB_replicate]
    simp [vB]
theorem NatAdd_ev {m n : Nat} (hm : (nat m).size ≤ 1099511627776) (hn : (nat n).size ≤ 1099511627776) : Ev (fun k => exact_NatAdd.f k (nat m) (nat n)) (nat (m + n)) := by
  have lm := words_len m
  have ln := words_len n
  refine Ev.bind (f := fun k t318 => (exact_words.f k (nat n)).bind fun t321 => (if (t318.length : Int) < (t321.length : Int) then (exact_NatAdd.j0 k t321 t318) else (exact_NatAdd.j0 k t318 t321))) (words_nat hm) (Ev.bind (words_nat hn) ?_)
  by_cases h : ((d64 m).length : Int) < ((d64 n).length : Int)
  · refine Ev.congr (f := fun k => exact_NatAdd.j0 k (d64 n) (d64 m)) (fun k => if_pos h) ?_
    rw [Nat.add_comm m n]
    exact NatAdd_j0 (by omega) (by omega)
  · refine Ev.congr (f := fun k => exact_NatAdd.j0 k (d64 m) (d64 n)) (fun k => if_neg h) ?_
    exact NatAdd_j0 (by omega) (by omega)
def cmpN (m n : Nat) : Int := if m < n then -1 else if m = n then 0 else 1
def bv (l : List UInt8) : Int := vB 256 (l.map fun b => (b.toNat : Int)).reverse
theorem bv_cons (a : UInt8) (l : List UInt8) : bv (a :: l) = bv l + 256 ^ l.length * (a.toNat : Int) := by
  unfold bv
  rw [List.map_cons, List.reverse_cons, vB_append]
  simp [vB]
theorem bv_range (l : List UInt8) : 0 ≤ bv l ∧ bv l < 256 ^ l.length := by
  have hd : Dig 256 (l.map fun b => (b.toNat : Int)).reverse := by
    apply Dig_reverse
    intro x hx
    obtain ⟨b, _, rfl⟩ := List.mem_map.1 hx
    have := b.toNat_lt
    omega
  refine ⟨vB_nonneg (by decide) hd, ?_⟩
  have := vB_lt (by decide) hd
  rw [List.length_reverse, List.length_map] at this
  exact this
theorem less_val : ∀ (x y : List UInt8), x.length = y.length → (Op.bytesLess x y = true ↔ bv x < bv y)
  | [], [], _ => by simp [Op.bytesLess]
  | [], _ :: _, h => by simp at h
  | _ :: _, [], h => by simp at h
  | a :: x, b :: y, h => by
    have h' : x.length = y.length := by simpa using h
    have ih := less_val x y h'
    obtain ⟨a0, a1⟩ := bv_range x
    obtain ⟨b0, b1⟩ := bv_range y
    rw [bv_cons, bv_cons, h'] at *
    have hP : (0 : Int) < 256 ^ y.length := Int.pow_pos (by decide)
    generalize (256 : Int) ^ y.length = P at *
    simp only [Op.bytesLess, Bool.or_eq_true, Bool.and_eq_true, decide_eq_true_eq, beq_iff_eq, ih]
    have hlt : a < b ↔ a.toNat < b.toNat := UInt8.lt_iff_toNat_lt
    have heq : a = b ↔ a.toNat = b.toNat := UInt8.toNat_inj.symm
    rw [hlt, heq]
    rcases Nat.lt_trichotomy a.toNat b.toNat with hc | hc | hc
    · have : P * ((a.toNat : Int) + 1) ≤ P * (b.toNat : Int) := Int.mul_le_mul_of_nonneg_left (by omega) (by omega)
      rw [Int.mul_add, Int.mul_one] at this
      constructor
      · intro _; omega
      · intro _; exact Or.inl hc
    · rw [hc]
      constructor
      · rintro (h | ⟨_, h⟩)
        · omega
        · omega
      · intro h; exact Or.inr ⟨rfl, by omega⟩
    · have : P * ((b.toNat : Int) + 1) ≤ P * (a.toNat : Int) := Int.mul_le_mul_of_nonneg_left (by omega) (by omega)
      rw [Int.mul_add, Int.mul_one] at this
      constructor
      · rintro (h | ⟨h, _⟩) <;> omega
      · intro h; omega
theorem bv_bval (s : ByteArray) : bv s.toList = bval s := by
  unfold bv bval bytesOf
  rw [ByteArray.toList_eq]
theorem toList_len (s : ByteArray) : s.toList.length = s.size := by
  rw [ByteArray.toList_eq, data_length]
theorem less_nat {m n : Nat} (h : (nat m).size = (nat n).size) : Op.bytesLess (nat m).toList (nat n).toList = decide (m < n) := by
  have := less_val (nat m).toList (nat n).toList (by rw [toList_len, toList_len, h])
  rw [bv_bval, bv_bval, bval_nat, bval_nat, Int.ofNat_lt] at this
  rw [Bool.eq_iff_iff, this, decide_eq_true_iff]
theorem size_lt {m n : Nat} (h : (nat m).size < (nat n).size) : m < n := by
  rcases Nat.lt_or_ge m n with h1 | h1
  · exact h1
  · have := size_mono h1
    omega
theorem NatCmp_ev (m n : Nat) : Ev (fun k => exact_NatCmp.f k (nat m) (nat n)) (cmpN m n) := by
  have hj : ∀ b : Bool, b = decide (m < n) → Ev (fun k => exact_NatCmp.j0 k (nat m) (nat n) b) (cmpN m n) := by
    rintro b rfl
    refine Ev.step (f := fun _ => some (cmpN m n)) (fun k => ?_) (Ev.now _)
    simp only [exact_NatCmp.j0, toList_ext, nat_inj, decide_eq_true_eq, cmpN]
    split
    · rfl
    · split <;> rfl
  by_cases h1 : (nat m).size < (nat n).size
  · refine Ev.congr (f := fun k => exact_NatCmp.j0 k (nat m) (nat n) true) (fun k => ?_) (hj _ (by simp [size_lt h1]))
    unfold exact_NatCmp.f
    rw [if_pos (by omega)]
  · by_cases h2 : (nat m).size = (nat n).size
    · refine Ev.congr (f := fun k => exact_NatCmp.j0 k (nat m) (nat n) (Op.bytesLess (nat m).toList (nat n).toList)) (fun k => ?_) (hj _ (less_nat h2))
      unfold exact_NatCmp.f
      rw [if_neg (by omega), if_pos (by omega)]
    · refine Ev.congr (f := fun k => exact_NatCmp.j0 k (nat m) (nat n) false) (fun k => ?_) (hj _ (by
        have : n < m := size_lt (by omega)
        simp; omega))
      unfold exact_NatCmp.f
      rw [if_neg (by omega), if_neg (by omega)]
def chk (s : ByteArray) : Int := if 0 < s.size ∧ bt s 0 = 0 then 1 else if 1024 < s.size then 4 else 0
theorem Check_ev (s : ByteArray) : Ev (fun k => natural_Check.f k s) (chk s) := by
  have hj : ∀ b : Bool, (b = true ↔ 0 < s.size ∧ bt s 0 = 0) → Ev (fun k => natural_Check.j0 k s b) (chk s) := by
    intro b hb
    refine Ev.step (f := fun _ => some (chk s)) (fun k => ?_) (Ev.now _)
    unfold chk
    simp only [natural_Check.j0]
    by_cases h : b = true
    · rw [if_pos h, if_pos (hb.1 h)]
    · rw [if_neg h, if_neg (fun h' => h (hb.2 h'))]
      by_cases h3 : 1024 < s.size
      · rw [if_pos (by omega), if_pos h3]
      · rw [if_neg (by omega), if_neg h3]
  by_cases h : 0 < s.size
  · refine Ev.congr (f := fun k => natural_Check.j0 k s (bt s 0 == 0)) (fun k => ?_) (hj _ (by simp [h]))
    unfold natural_Check.f
    rw [if_pos (by omega), if_pos (by omega)]
  · refine Ev.congr (f := fun k => natural_Check.j0 k s false) (fun k => ?_) (hj _ (by simp [h]))
    unfold natural_Check.f
    rw [if_neg (by omega)]
theorem chk_nat {n : Nat} (h : (nat n).size ≤ 1024) : chk (nat n) = 0 := by
  unfold chk
  rw [if_neg, if_neg (by omega)]
  rintro ⟨h1, h2⟩
  rcases nat_wf n with h3 | h3
  · omega
  · exact h3 h2
theorem chk_zero {s : ByteArray} (h : chk s = 0) : s = nat (bval s).toNat ∧ s.size ≤ 1024 := by
  unfold chk at h
  by_cases h1 : 0 < s.size ∧ bt s 0 = 0
  · rw [if_pos h1] at h; omega
  · rw [if_neg h1] at h
    refine ⟨wf_nat ?_, ?_⟩
    · rcases Nat.eq_zero_or_pos s.size with h2 | h2
      · exact Or.inl h2
      · exact Or.inr (fun h3 => h1 ⟨h2, h3⟩)
    · rcases Nat.lt_or_ge 1024 s.size with h2 | h2
      · rw [if_pos h2] at h; omega
      · exact h2
def firstErr : List ByteArray → Int
  | [] => 0
  | s :: l => if chk s = 0 then firstErr l else chk s
theorem first_l0 (l : List ByteArray) (hl : l.length < 9223372036854775808) : ∀ (d i : Nat), i + d = l.length → Ev (fun k => natural_first.l0 k l (l.length : Int) (i : Int)) (firstErr (l.drop i)) := by
  intro d
  induction d with
  | zero =>
    intro i hi
    rw [List.drop_of_length_le (by omega)]
    refine Ev.step (f := fun _ => some 0) (fun k => ?_) (Ev.now _)
    simp only [natural_first.l0]
    rw [if_neg (by omega)]
  | succ d ih =>
    intro i hi
    have hi' : i < l.length := by omega
    have e1 : wrap64 ((i : Int) + 1) = ((i + 1 : Nat) : Int) := by rw [w64 (by omega) (by omega)]; omega
    have e2 : rdOf ByteArray.empty l (i : Int) = l[i] := by
      unfold rdOf
      rw [Int.toNat_natCast, List.getD_eq_getElem?_getD, List.getElem?_eq_getElem hi']
      rfl
    rw [List.drop_eq_getElem_cons hi', firstErr]
    refine Ev.step (f := fun k => (natural_Check.f k l[i]).bind fun t => if t = 0 then natural_first.l0 k l (l.length : Int) ((i + 1 : Nat) : Int) else some t) (fun k => ?_) (Ev.bind (Check_ev _) ?_)
    · simp only [natural_first.l0, e1, e2]
      rw [if_pos (by omega), if_pos (by omega), if_pos (by omega)]
    · by_cases h : chk l[i] = 0
      · rw [if_pos h]
        exact Ev.congr (fun k => if_pos h) (ih (i + 1) (by omega))
      · rw [if_neg h]
        exact Ev.congr (f := fun _ => some (chk l[i])) (fun k => if_neg h) (Ev.now _)
theorem first_ev (l : List ByteArray) (hl : l.length < 9223372036854775808) : Ev (fun k => natural_first.f k l) (firstErr l) := first_l0 l hl l.length 0 (by omega)
theorem first1 (a : ByteArray) : Ev (fun k => natural_first.f k [a]) (chk a) := by
  have := first_ev [a] (by simp)
  rwa [show firstErr [a] = chk a by unfold firstErr firstErr; split <;> simp_all] at this
def bnd (n : Nat) : ByteArray × Int := if 1024 < (nat n).size then (⟨#[]⟩, 4) else (nat n, 0)
theorem bounded_eq (n : Nat) : natural_bounded.f (nat n) = some (bnd n) := by
  unfold natural_bounded.f bnd
  by_cases h : 1024 < (nat n).size
  · rw [if_pos (by omega), if_pos h]
  · rw [if_neg (by omega), if_neg h]
theorem bnd_ok {n : Nat} (h : (nat n).size ≤ 1024) : bnd n = (nat n, 0) := by
  unfold bnd
  rw [if_neg (by omega)]
end Go.Proofs.YtohkmnbnjacfaaaN
set_option linter.unusedVariables false
namespace Go.Proofs.YtohkmnbnjacfaaaN
open Go.RowKit Go.Proofs.Ytohkmnbnjacfaaa.All Go.Proofs.YtohkmnbnjacfaaaW.PrintWords Go.Proofs.YtohkmnbnjacfaaaW.PrintLast Go.Proofs.YtohkmnbnjacfaaaW.PrintMore
theorem ev_some {α β : Type} {o : Option α} {f : Nat → α → Option β} {a : α} {r : β} (h : o = some a) (k : Ev (fun n => f n a) r) : Ev (fun n => o.bind (f n)) r := by subst h; exact k
theorem awake_ev : Ev (fun k => galoislaw01_awake.f k) true := Ev.of (fun k => galoislaw01_awake.mono k) (k := 60) (by decide +kernel)
theorem refCheck_eq (s : ByteArray) : galoisref01_Check.f s = some (chk s) := by
  have hv : galoisref01_Valid.f s = some (decide (s.size = 0 ∨ bt s 0 ≠ 0)) := by
    unfold galoisref01_Valid.f
    by_cases h : s.size = 0
    · rw [if_pos (toList_nil.2 h)]
      simp [h]
    · rw [if_neg (fun h' => h (toList_nil.1 h')), if_pos (by omega)]
      by_cases h2 : bt s 0 = 0 <;> simp [h, h2]
  unfold galoisref01_Check.f
  rw [hv, Option.bind_some]
  unfold chk galoisref01_Fits.f
  by_cases h : s.size = 0 ∨ bt s 0 ≠ 0
  · have hn : ¬ (0 < s.size ∧ bt s 0 = 0) := by
      intro h1
      rcases h with h | h
      · exact Nat.ne_of_gt h1.1 h
      · exact h h1.2
    rw [if_pos (decide_eq_true h), if_neg hn]
    by_cases h3 : 1024 < s.size
    · rw [if_pos (show (s.size : Int) > 1024 by omega), if_pos h3]
      rfl
    · rw [if_neg (show ¬ (s.size : Int) > 1024 by omega), if_neg h3]
      rfl
  · have hn : 0 < s.size ∧ bt s 0 = 0 := by
      refine ⟨Nat.pos_of_ne_zero fun h1 => h (Or.inl h1), ?_⟩
      rcases Decidable.em (bt s 0 = 0) with h2 | h2
      · exact h2
      · exact absurd (Or.inr h2) h
    rw [if_neg (by rw [decide_eq_true_eq]; exact h), if_pos hn]
theorem number {s : ByteArray} (h : chk s = 0) : ∃ n, s = nat n ∧ (nat n).size ≤ 1024 := by
  obtain ⟨h1, h2⟩ := chk_zero h
  exact ⟨_, h1, by rw [← h1]; exact h2⟩
end Go.Proofs.YtohkmnbnjacfaaaN
set_option linter.unusedVariables false
namespace Go.Proofs.YtohkmnbnjacfaaaN
open Go.RowKit Go.Proofs.Ytohkmnbnjacfaaa.All Go.Proofs.YtohkmnbnjacfaaaW.PrintWords Go.Proofs.YtohkmnbnjacfaaaW.PrintLast Go.Proofs.YtohkmnbnjacfaaaW.PrintMore
theorem shr_eq (x : Int) (s : Nat) (hs : s ≤ 64) : shr .u64 x (s : Int) = x / 2 ^ s := by
  unfold shr
  rw [Int.toNat_natCast, show min s IntKind.u64.bits = s from Nat.min_eq_left hs]
end Go.Proofs.YtohkmnbnjacfaaaN
set_option linter.unusedVariables false
namespace Go.Proofs.YtohkmnbnjacfaaaN
open Go.RowKit Go.Proofs.Ytohkmnbnjacfaaa.All Go.Proofs.YtohkmnbnjacfaaaW.PrintWords Go.Proofs.YtohkmnbnjacfaaaW.PrintLast Go.Proofs.YtohkmnbnjacfaaaW.PrintMore
end Go.Proofs.YtohkmnbnjacfaaaN
set_option linter.unusedVariables false
namespace Go.Proofs.YtohkmnbnjacfaaaN
open Go.RowKit Go.Proofs.Ytohkmnbnjacfaaa.All Go.Proofs.YtohkmnbnjacfaaaW.PrintWords Go.Proofs.YtohkmnbnjacfaaaW.PrintLast Go.Proofs.YtohkmnbnjacfaaaW.PrintMore
def SubMul (u v z : List Int) (q : Int) (i : Nat) (b c : Int) : Prop :=
  z.length = u.length ∧ Dig B64 z ∧ (0 ≤ b ∧ b ≤ 1) ∧ (0 ≤ c ∧ c < B64) ∧ vB B64 z + q * vB B64 (v.take i) = vB B64 u + B64 ^ i * (b + c)
theorem sub_mul {u v z : List Int} {q b c d e : Int} {i : Nat} (hz : i < z.length) (q0 : 0 ≤ q) (q1 : q < B64) (hv : Dig B64 v) (hi : i < v.length) (h : SubMul u v z q i b c) (d0 : 0 ≤ d) (d1 : d < B64) (e0 : 0 ≤ e) (e1 : e ≤ 1)
    (he : d = rd z (i : Int) - (q * rd v (i : Int) + 0 + c) % B64 - b + B64 * e) : SubMul u v (z.set i d) q (i + 1) e ((q * rd v (i : Int) + 0 + c) / B64) := by
  obtain ⟨hl, hd, hb, hc, hs⟩ := h
  obtain ⟨y0, y1⟩ := Dig_rd hv i hi
  obtain ⟨-, -, n0, n1⟩ := mul_add q0 q1 y0 y1 (Int.le_refl 0) (by decide) hc.1 hc.2
  refine ⟨by rw [List.length_set]; exact hl, Dig_set hd _ d0 d1, ⟨e0, e1⟩, ⟨n0, n1⟩, ?_⟩
  rw [vB_set _ _ _ _ hz, take_succ, Int.pow_succ, he]
  have g := Int.emod_add_mul_ediv (q * rd v (i : Int) + 0 + c) B64
  generalize (q * rd v (i : Int) + 0 + c) / B64 = C at *
  generalize (q * rd v (i : Int) + 0 + c) % B64 = l at *
  have er : l = q * rd v (i : Int) + c - B64 * C := by clear hs; omega
  have e2 : rd z (i : Int) - l - b + B64 * e - rd z (i : Int) = B64 * e + B64 * C - q * rd v (i : Int) - c - b := by clear hs; omega
  rw [e2]
  generalize rd v (i : Int) = y at *
  generalize vB B64 (List.take i v) = T at *
  generalize (B64 : Int) ^ i = P at *
  rw [Int.mul_add q, Int.mul_left_comm q P y, Int.mul_sub, Int.mul_sub, Int.mul_sub, Int.mul_add, Int.mul_assoc P B64, Int.mul_add B64, Int.mul_add P]
  rw [Int.mul_add] at hs
  generalize q * y = qy at *
  generalize P * qy = A at *
  generalize P * (B64 * e) = A1 at *
  generalize P * (B64 * C) = A2 at *
  generalize P * c = A3 at *
  generalize P * b = A4 at *
  omega
end Go.Proofs.YtohkmnbnjacfaaaN
set_option linter.unusedVariables false
namespace Go.Proofs.YtohkmnbnjacfaaaN
open Go.RowKit Go.Proofs.Ytohkmnbnjacfaaa.All Go.Proofs.YtohkmnbnjacfaaaW.PrintWords Go.Proofs.YtohkmnbnjacfaaaW.PrintLast Go.Proofs.YtohkmnbnjacfaaaW.PrintMore
end Go.Proofs.YtohkmnbnjacfaaaN
set_option linter.unusedVariables false
namespace Go.Proofs.YtohkmnbnjacfaaaN
open Go.RowKit Go.Proofs.Ytohkmnbnjacfaaa.All Go.Proofs.YtohkmnbnjacfaaaW.PrintWords Go.Proofs.YtohkmnbnjacfaaaW.PrintLast Go.Proofs.YtohkmnbnjacfaaaW.PrintMore
theorem drop_succ (B : Int) (l : List Int) (i : Nat) (h : i < l.length) : vB B (l.drop i) = rd l (i : Int) + B * vB B (l.drop (i + 1)) := by
  rw [List.drop_eq_getElem_cons h, vB_cons, rd_get l i h]
theorem drop_set (l : List Int) (i : Nat) (x : Int) : (l.set i x).drop (i + 1) = l.drop (i + 1) := by
  apply List.ext_getElem?
  intro j
  rw [List.getElem?_drop, List.getElem?_drop, List.getElem?_set_ne (by omega)]
end Go.Proofs.YtohkmnbnjacfaaaN
set_option linter.unusedVariables false
namespace Go.Proofs.YtohkmnbnjacfaaaN
open Go.RowKit Go.Proofs.Ytohkmnbnjacfaaa.All Go.Proofs.YtohkmnbnjacfaaaW.PrintWords Go.Proofs.YtohkmnbnjacfaaaW.PrintLast Go.Proofs.YtohkmnbnjacfaaaW.PrintMore
end Go.Proofs.YtohkmnbnjacfaaaN
set_option linter.unusedVariables false
namespace Go.Proofs.YtohkmnbnjacfaaaN
open Go.RowKit Go.Proofs.Ytohkmnbnjacfaaa.All Go.Proofs.YtohkmnbnjacfaaaW.PrintWords Go.Proofs.YtohkmnbnjacfaaaW.PrintLast Go.Proofs.YtohkmnbnjacfaaaW.PrintMore
theorem nat_empty {n : Nat} : (nat n).toList = ([] : List UInt8) ↔ n = 0 := by rw [toList_nil, nat_size_zero]
end Go.Proofs.YtohkmnbnjacfaaaN
set_option linter.unusedVariables false
namespace Go.Proofs.YtohkmnbnjacfaaaN
open Go.RowKit Go.Proofs.Ytohkmnbnjacfaaa.All Go.Proofs.YtohkmnbnjacfaaaW.PrintWords Go.Proofs.YtohkmnbnjacfaaaW.PrintLast Go.Proofs.YtohkmnbnjacfaaaW.PrintMore
theorem len_mul (m n : Nat) : (d64 (m * n)).length ≤ (d64 m).length + (d64 n).length := by
  apply dgs_len
  have h1 := dgs_lt 18446744073709551614 m
  have h2 := dgs_lt 18446744073709551614 n
  rw [Nat.pow_add]
  exact Nat.lt_of_le_of_lt (Nat.mul_le_mul_right _ (Nat.le_of_lt h1)) (Nat.mul_lt_mul_of_pos_left h2 (Nat.lt_of_le_of_lt (Nat.zero_le _) h1))
theorem d64_one : d64 1 = [1] := by
  unfold d64
  rw [dgs_pos _ _ (by decide), show 1 / (18446744073709551614 + 2) = 0 from rfl, dgs_zero]
  rfl
theorem wraps_i64 (n : Int) (h0 : 0 ≤ n) (h1 : n < 2 ^ 63) : IntKind.i64.wrap n = n := by rw [IntKind.wrap_i64]; omega
theorem odd_bit (e : Nat) (h : e < 9223372036854775808) : Go.bits .and .i64 (e : Int) 1 = ((e % 2 : Nat) : Int) := by
  have := bits_mask .i64 63 (by decide) wraps_i64 1 (by decide) (e : Int) (by omega) (by omega)
  have e1 : (2 : Int) ^ 1 - 1 = 1 := rfl
  rw [e1] at this
  rw [this]
  omega
theorem NatPow_l0 : ∀ (e A X : Nat), e < 9223372036854775808 → (d64 A).length + 2 * e * (d64 X).length ≤ 1000000000000 → (d64 X).length ≤ 1000000000000 → Ev (fun k => exact_NatPow.l0 k (e : Int) (d64 A) (d64 X)) (nat (A * X ^ e)) := by
  intro e
  induction e using Nat.strongRecOn with
  | _ e ih =>
    intro A X he hl hx
    by_cases h : e = 0
    · subst h
      have p := pack_ev (d64_dig A) (by omega)
      rw [d64_val, Int.toNat_natCast] at p
      rw [Nat.pow_zero, Nat.mul_one]
      refine Ev.step (f := fun k => (exact_pack.f k (d64 A)).bind fun t => some t) (fun k => ?_) (Ev.bind p (Ev.now _))
      simp only [exact_NatPow.l0]
      rw [if_neg (by decide)]
    · have c1 : (e : Int) > 0 := by omega
      have hb := odd_bit e he
      have e2 : (e : Int) / 2 = ((e / 2 : Nat) : Int) := by omega
      have lXX := len_mul X X
      have lAX := len_mul A X
      have hX : (d64 X).length ≤ e * (d64 X).length := Nat.le_mul_of_pos_left _ (Nat.pos_of_ne_zero h)
      have h2 : 2 * e * (d64 X).length = 2 * (e * (d64 X).length) := Nat.mul_assoc _ _ _
      have hhalf : 2 * (e / 2) * (d64 (X * X)).length ≤ 4 * (e / 2 * (d64 X).length) := by
        have := Nat.mul_le_mul_left (2 * (e / 2)) lXX
        have e3 : 2 * (e / 2) * ((d64 X).length + (d64 X).length) = 4 * (e / 2 * (d64 X).length) := by
          rw [Nat.mul_add, Nat.mul_assoc]
          omega
        omega
      have hcut : 2 * (e / 2 * (d64 X).length) + e % 2 * (d64 X).length = e * (d64 X).length := by
        rw [← Nat.mul_assoc, ← Nat.add_mul]
        congr 1
        omega
      rw [h2] at hl
      have sq := mulWords_d64 (m := X) (n := X) (by omega) (by omega)
      by_cases ho : e % 2 = 1
      · rw [ho, Nat.one_mul] at hcut
        have ax := mulWords_d64 (m := A) (n := X) (by omega) (by omega)
        have hp : A * X ^ e = A * X * (X * X) ^ (e / 2) := by
          have : X ^ e = X * (X * X) ^ (e / 2) := by
            rw [← Nat.pow_two, ← Nat.pow_mul, Nat.mul_comm X, ← Nat.pow_succ]
            congr 1
            omega
          rw [this, Nat.mul_assoc]
        rw [hp]
        refine Ev.step (f := fun k => (exact_mulWords.f k (d64 A) (d64 X)).bind fun t301 => ((exact_mulWords.f k (d64 X) (d64 X)).bind fun t304 => exact_NatPow.l0 k ((e / 2 : Nat) : Int) t301 t304)) (fun k => ?_) (Ev.bind ax (Ev.bind sq (ih (e / 2) (by omega) _ _ (by omega) (by omega) (by omega))))
        simp only [exact_NatPow.l0, hb, e2]
        rw [if_pos c1, if_pos (by rw [ho]; rfl)]
      · have ho' : e % 2 = 0 := by omega
        rw [ho', Nat.zero_mul, Nat.add_zero] at hcut
        have hp : A * X ^ e = A * (X * X) ^ (e / 2) := by
          have : X ^ e = (X * X) ^ (e / 2) := by
            rw [← Nat.pow_two, ← Nat.pow_mul]
            congr 1
            omega
          rw [this]
        rw [hp]
        refine Ev.step (f := fun k => (exact_mulWords.f k (d64 X) (d64 X)).bind fun t307 => exact_NatPow.l0 k ((e / 2 : Nat) : Int) (d64 A) t307) (fun k => ?_) (Ev.bind sq (ih (e / 2) (by omega) _ _ (by omega) (by omega) (by omega)))
        simp only [exact_NatPow.l0, hb, e2]
        rw [if_pos c1, if_neg (by rw [ho']; decide)]
theorem NatPow_ev {m e : Nat} (hm : (nat m).size ≤ 100000) (he : e ≤ 100000) : Ev (fun k => exact_NatPow.f k (nat m) (e : Int)) (nat (m ^ e)) := by
  have lm := words_len m
  refine Ev.bind (words_nat (by omega)) ?_
  have h1 : 2 * e * (d64 m).length ≤ 200000 * 100000 := Nat.mul_le_mul (by omega) (by omega)
  have := NatPow_l0 e 1 m (by omega) (by rw [d64_one]; show 1 + _ ≤ _; omega) (by omega)
  rw [d64_one, Nat.one_mul] at this
  exact this
def bl (n : Nat) : Nat := if n = 0 then 0 else n.log2 + 1
theorem bl_lt (n : Nat) : n < 2 ^ bl n := by
  unfold bl
  split
  · subst_vars; decide
  · exact Nat.lt_log2_self
theorem bl_le {n : Nat} (h : n ≠ 0) : 1 ≤ bl n ∧ 2 ^ (bl n - 1) ≤ n := by
  unfold bl
  rw [if_neg h]
  exact ⟨by omega, by simpa using Nat.log2_self_le h⟩
theorem bl_unique {n b : Nat} (h : n ≠ 0) (hb : 1 ≤ b) (h1 : 2 ^ (b - 1) ≤ n) (h2 : n < 2 ^ b) : bl n = b := by
  obtain ⟨g1, g2⟩ := bl_le h
  have g3 := bl_lt n
  have k1 : b - 1 < bl n := (Nat.pow_lt_pow_iff_right (by decide : 1 < 2)).1 (Nat.lt_of_le_of_lt h1 g3)
  have k2 : bl n - 1 < b := (Nat.pow_lt_pow_iff_right (by decide : 1 < 2)).1 (Nat.lt_of_le_of_lt g2 h2)
  omega
theorem bl_size {n : Nat} : bl n ≤ 8 * (nat n).size := by
  by_cases h : n = 0
  · subst h; simp [bl]
  · have h1 := nat_lt_size n
    obtain ⟨g1, g2⟩ := bl_le h
    have e : 256 ^ (nat n).size = 2 ^ (8 * (nat n).size) := by rw [Nat.pow_mul]
    rw [e] at h1
    have k2 : bl n - 1 < 8 * (nat n).size := (Nat.pow_lt_pow_iff_right (by decide : 1 < 2)).1 (Nat.lt_of_le_of_lt g2 h1)
    omega
theorem NatBits_eq {n : Nat} (hn : (nat n).size ≤ 1099511627776) : exact_NatBits.f (nat n) = some (bl n : Int) := by
  unfold exact_NatBits.f
  by_cases h : n = 0
  · rw [if_pos (nat_empty.2 h), h]
    rfl
  · have hp : 0 < (nat n).size := Nat.pos_of_ne_zero fun h0 => h (nat_size_zero.1 h0)
    have hl := nat_size n
    rw [if_neg (fun h0 => h (nat_empty.1 h0)), if_pos (by omega)]
    have ht : bt (nat n) 0 = rd (d8 n) (((nat n).size - 1 : Nat) : Int) := by
      have := rd_reverse (d8 n) 0 (by omega)
      rw [bt_rd, nat_bytes]
      rw [show (d8 n).length - 1 - 0 = (nat n).size - 1 by omega] at this
      exact this
    have hne : bt (nat n) 0 ≠ 0 := by
      rcases nat_wf n with h1 | h1
      · omega
      · exact h1
    obtain ⟨b0, b1⟩ := bt_range (nat n) 0
    obtain ⟨t, ht2⟩ := Int.eq_ofNat_of_zero_le b0
    rw [ht2] at ht hne b1 ⊢
    have hv := vB_all 256 (d8 n) ((nat n).size - 1 + 1) (by omega)
    rw [take_succ, d8_val, ← ht] at hv
    have lo0 := vB_nonneg (show (0 : Int) ≤ 256 by decide) (Dig_take (d8_dig n) ((nat n).size - 1))
    have lo1 := vB_lt (show (0 : Int) < 256 by decide) (Dig_take (d8_dig n) ((nat n).size - 1))
    rw [List.length_take, Nat.min_eq_left (by omega)] at lo1
    obtain ⟨l, hlo⟩ := Int.eq_ofNat_of_zero_le lo0
    rw [hlo] at hv lo1
    have hv' : l + 256 ^ ((nat n).size - 1) * t = n := by
      apply Int.ofNat_inj.1
      rw [Int.natCast_add, Int.natCast_mul, Int.natCast_pow]
      exact hv
    have lo1' : l < 256 ^ ((nat n).size - 1) := by
      apply Int.ofNat_lt.1
      rw [Int.natCast_pow]
      exact lo1
    obtain ⟨h1, h2, h3⟩ := Lib.bitLenAux_bounds 64 t (by omega) (by omega)
    have h4 : Lib.bitLen t ≤ 8 := Lib.bitLen_le t 8 (by decide) (by omega)
    have eb : Lib.bitLenAux 64 t = Lib.bitLen t := rfl
    rw [eb] at h1 h2 h3
    generalize hL : Lib.bitLen t = L at *
    have hb : bl n = 8 * ((nat n).size - 1) + L := by
      have e8 : 256 ^ ((nat n).size - 1) = 2 ^ (8 * ((nat n).size - 1)) := by rw [Nat.pow_mul]
      rw [e8] at hv' lo1'
      apply bl_unique h (by omega)
      · rw [show 8 * ((nat n).size - 1) + L - 1 = 8 * ((nat n).size - 1) + (L - 1) by omega, Nat.pow_add]
        have := Nat.mul_le_mul_left (2 ^ (8 * ((nat n).size - 1))) h2
        omega
      · rw [Nat.pow_add]
        have := Nat.mul_le_mul_left (2 ^ (8 * ((nat n).size - 1))) (show t + 1 ≤ 2 ^ L by omega)
        rw [Nat.mul_add, Nat.mul_one] at this
        omega
    unfold bits_Len8.f
    rw [if_pos (by omega), Option.bind_some, Int.toNat_natCast, hL, hb]
    clear hv' lo1' hv lo1 h2 h3 hb
    rw [w64 (x := ((nat n).size : Int) - 1) (by omega) (by omega), w64 (x := 8 * (((nat n).size : Int) - 1)) (by omega) (by omega), w64 (by omega) (by omega)]
    congr 1
    omega
end Go.Proofs.YtohkmnbnjacfaaaN
set_option linter.unusedVariables false
namespace Go.Proofs.YtohkmnbnjacfaaaN
open Go.RowKit Go.Proofs.Ytohkmnbnjacfaaa.All Go.Proofs.YtohkmnbnjacfaaaW.PrintWords Go.Proofs.YtohkmnbnjacfaaaW.PrintLast Go.Proofs.YtohkmnbnjacfaaaW.PrintMore
theorem str_nat {l : List Int} {n : Nat} (hd : Dig 256 l) (ht : 0 < l.length → rd l 0 ≠ 0) (hv : vB 256 l.reverse = n) : strOfNums l = nat n := by
  have : l.reverse = d8 n := by
    refine d8_unique (Dig_reverse hd) (fun hp => ?_) hv
    rw [List.length_reverse] at hp ⊢
    have := rd_reverse l (l.length - 1) (by omega)
    rw [show l.length - 1 - (l.length - 1) = 0 by omega] at this
    rw [this]
    exact ht hp
  unfold nat
  rw [← this, List.reverse_reverse]
theorem drop_zeros (l : List Int) (hd : Dig 256 l) : Dig 256 (l.dropWhile (· == 0)) ∧ (0 < (l.dropWhile (· == 0)).length → rd (l.dropWhile (· == 0)) 0 ≠ 0) ∧ vB 256 (l.dropWhile (· == 0)).reverse = vB 256 l.reverse := by
  induction l with
  | nil => exact ⟨Dig_nil _, fun h => absurd h (by simp), rfl⟩
  | cons x l ih =>
    have h := Dig_cons.1 hd
    by_cases hx : x = 0
    · subst hx
      have e : (0 :: l).dropWhile (· == 0) = l.dropWhile (· == 0) := by simp [List.dropWhile]
      obtain ⟨h1, h2, h3⟩ := ih h.2
      rw [e]
      refine ⟨h1, h2, ?_⟩
      rw [h3, List.reverse_cons, vB_append]
      simp [vB]
    · have hb : (x == 0) = false := by simpa using hx
      have e : (x :: l).dropWhile (· == 0) = x :: l := by simp [List.dropWhile, hb]
      rw [e]
      exact ⟨hd, fun _ => hx, rfl⟩
end Go.Proofs.YtohkmnbnjacfaaaN
