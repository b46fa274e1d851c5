/- Part of the proof of the statement NaturalSums: lemmas on the model's steps, Lean functions that say what the program's functions compute, and proofs that the calls do just that. No hypothesis is added. -/
import Derived.Test.YtohkmnbnjacfaaaKNaturalSums3
set_option linter.all false
namespace Go.Proofs.Ytohkmnbnjacfaaa.All
open Go.Proofs.YtohkmnbnjacfaaaX
open Go.RowKit Go.Proofs.YtohkmnbnjacfaaaW.PrintWords Go.Proofs.YtohkmnbnjacfaaaW.PrintLast Go.Proofs.YtohkmnbnjacfaaaW.PrintMore
attribute [local go_sem] max2_int min2_int max_two min_two max_three min_three max_four min_four
set_option linter.unusedVariables false
set_option linter.unusedSimpArgs false
mutual
def galoisref01_limbs.l0 : Nat → ByteArray → List Int → Int → Option (List Int)
 | 0, _, _, _ => none
 | k + 1, x0, x3, x4 => if x4 > 0 then (galoisref01_limbs.l1 k x0 x3 x4 0 (mx 0 (wrap64 (x4 - 4)))) else ((galoisref01_trim.f k x3).bind fun t433 => (some t433))
def galoisref01_limbs.l1 : Nat → ByteArray → List Int → Int → Int → Int → Option (List Int)
 | 0, _, _, _, _, _ => none
 | k + 1, x0, x3, x4, x5, x6 => if x6 < x4 then (if 0 ≤ x6 then (if x6 < (x0.size : Int) then (galoisref01_limbs.l1 k x0 x3 x4 (IntKind.u64.wrap ((IntKind.u64.wrap (x5 * 256)) + (IntKind.u64.wrap (bt x0 x6)))) (wrap64 (x6 + 1))) else (none)) else (none)) else (if x3.length < 17592186044416 then (galoisref01_limbs.l0 k x0 (x3 ++ [x5]) (wrap64 (x4 - 4))) else (none))
end
def galoisref01_limbs.f (k : Nat) (a0 : ByteArray) : Option (List Int) := galoisref01_limbs.l0 k a0 ([] : List Int) (a0.size : Int)
theorem galoisref01_limbs.mono_l : ∀ k, (∀ y0 y1 y2, LeO (galoisref01_limbs.l0 k y0 y1 y2) (galoisref01_limbs.l0 (k + 1) y0 y1 y2)) ∧ (∀ y0 y1 y2 y3 y4, LeO (galoisref01_limbs.l1 k y0 y1 y2 y3 y4) (galoisref01_limbs.l1 (k + 1) y0 y1 y2 y3 y4))
 | 0 => ⟨fun _ _ _ r h => by simp [galoisref01_limbs.l0] at h, fun _ _ _ _ _ r h => by simp [galoisref01_limbs.l1] at h⟩
 | k + 1 => by
  obtain ⟨ih0, ih1⟩ := galoisref01_limbs.mono_l k
  refine ⟨?_, ?_⟩
  ·intro y0 y1 y2
   unfold galoisref01_limbs.l0
   repeat' first
   | (with_reducible exact ih0 _ _ _)
   | (with_reducible exact ih1 _ _ _ _ _)
   | (with_reducible exact galoisref01_trim.mono _ _)
   | (with_reducible exact LeO.refl _)
   | (with_reducible exact LeO.none _)
   | (with_reducible refine LeO.ite ?_ ?_)
   | (with_reducible refine LeO.bind ?_ (fun _ => ?_))
   | exact ih0 _ _ _
   | exact ih1 _ _ _ _ _
   | exact galoisref01_trim.mono _ _
   | exact LeO.none _
   | refine LeO.ite ?_ ?_
   | refine LeO.bind ?_ (fun _ => ?_)
  ·intro y0 y1 y2 y3 y4
   unfold galoisref01_limbs.l1
   repeat' first
   | (with_reducible exact ih0 _ _ _)
   | (with_reducible exact ih1 _ _ _ _ _)
   | (with_reducible exact galoisref01_trim.mono _ _)
   | (with_reducible exact LeO.refl _)
   | (with_reducible exact LeO.none _)
   | (with_reducible refine LeO.ite ?_ ?_)
   | (with_reducible refine LeO.bind ?_ (fun _ => ?_))
   | exact ih0 _ _ _
   | exact ih1 _ _ _ _ _
   | exact galoisref01_trim.mono _ _
   | exact LeO.none _
   | refine LeO.ite ?_ ?_
   | refine LeO.bind ?_ (fun _ => ?_)
theorem galoisref01_limbs.mono : ∀ a0 k, LeO (galoisref01_limbs.f k a0) (galoisref01_limbs.f (k + 1) a0) := by
 intro a0 k
 obtain ⟨ih0, ih1⟩ := galoisref01_limbs.mono_l k
 unfold galoisref01_limbs.f
 repeat' first
   | (with_reducible exact ih0 _ _ _)
   | (with_reducible exact ih1 _ _ _ _ _)
   | (with_reducible exact galoisref01_trim.mono _ _)
   | (with_reducible exact LeO.refl _)
   | (with_reducible exact LeO.none _)
   | (with_reducible refine LeO.ite ?_ ?_)
   | (with_reducible refine LeO.bind ?_ (fun _ => ?_))
   | exact ih0 _ _ _
   | exact ih1 _ _ _ _ _
   | exact galoisref01_trim.mono _ _
   | exact LeO.none _
   | refine LeO.ite ?_ ?_
   | refine LeO.bind ?_ (fun _ => ?_)
set_option maxHeartbeats 8000000 in
set_option maxRecDepth 100000 in
theorem galoisref01_limbs.calls (k : Nat) (a0 : ByteArray) (r : List Int) (w : World) (h : galoisref01_limbs.f k a0 = some r) :
  Calls Try.prog 51 #[.string a0] w fun e w' => ∃ v0_ : Value, e = .returned (v0_) ∧ Kd.R (Kd.int .u64) 49 w' w.heap.size (fun _ => True) v0_ r ∧ Below w.heap.size w w' := by
 have HB := Aside0.mk (Below.refl w.heap.size w)
 have H : (galoisref01_limbs.l0 k a0 ([] : List Int) (a0.size : Int)) = some r := h
 clear h
 have H' := Aside0.mk H
 clear H
 go_enter Try.func51, Try.ntmps51
 go_wp2
 go_loopg [3, 4] k (fun kq v3 v4 w' => ∃ (x3_1 : List Int) (x4_1 : Int), v4 = .int .i64 x4_1 ∧ Aside0 (galoisref01_limbs.l0 kq a0 x3_1 x4_1 = some r) ∧ Aside0 (kq ≤ k) ∧ Aside0 (Kd.R (Kd.int .u64) 49 w' w.heap.size (fun _ => True) v3 x3_1) ∧ Aside0 (Below w.heap.size w w'))
 case atStart => exact ⟨(([] : List Int)), ((a0.size : Int)), (by first | rfl | (simp; done) | (simp [*]; done)), H', ⟨Nat.le_refl _⟩, ⟨by first | exact Kd.R_nil _ _ _ _ _ | exact Kd.N_nil _ _ _ _ _ | exact Kd.V_nil _ _ _ _ _ | exact Kd.Q_nil _ _ _ _ _ | exact Kd.S_nil _ _ _ _ _⟩, ⟨by repeat (first | (with_reducible first | exact HB.out | apply below_alloc | apply pw_below_drewN | apply below_drew1) | exact HB.out)⟩⟩
 case round =>
  clear H'
  obtain ⟨x3_1, x4_1, rfl, HA, HK1, HO_3, HB⟩ := hrel
  cases gk with
  | zero => exact absurd HA.out (by simp [galoisref01_limbs.l0])
  | succ k1 =>
   have H := HA.out
   clear HA
   simp only [galoisref01_limbs.l0] at H
   by_cases c2 : x4_1 > 0
   ·rw [if_pos c2] at H
    have c2b0 : decide (0 < x4_1) = true := decide_eq_true c2
    clear c2
    obtain ⟨ji3, hji3⟩ : ∃ j_ : Int, (mx 0 (wrap64 (x4_1 - 4))) = j_ := ⟨_, rfl⟩
    replace H : (galoisref01_limbs.l1 k1 a0 x3_1 x4_1 0 ji3) = some r := by first | (rw [hji3] at H; exact H) | (simp only [hji3] at H ⊢; exact H)
    have hji3_ : (if 0 < (wrap64 (x4_1 - 4)) then (wrap64 (x4_1 - 4)) else 0) = ji3 := hji3
    have H' := Aside0.mk H
    clear H
    go_wp2
    go_loopg [5, 6] k1 (fun kq v5 v6 w' => ∃ (x5_2 : Int) (x6_2 : Int), v5 = .int .u64 x5_2 ∧ v6 = .int .i64 x6_2 ∧ Aside0 (galoisref01_limbs.l1 kq a0 x3_1 x4_1 x5_2 x6_2 = some r) ∧ Aside0 (kq ≤ k1) ∧ Aside0 (Kd.R (Kd.int .u64) 49 w' w.heap.size (fun _ => True) u3 x3_1) ∧ Aside0 (Below w.heap.size w w'))
    case atStart => exact ⟨(0), (ji3), (by first | rfl | (simp; done) | (simp [*]; done)), (by first | rfl | (simp; done) | (simp only [← hji3] <;> (first | rfl | simp)) | (simp [*]; done)), H', ⟨Nat.le_refl _⟩, ⟨by (with_reducible repeat (first | apply Kd.R_alloc | apply Kd.R_drewN | apply Kd.R_drew)); exact HO_3.out⟩, ⟨by repeat (first | (with_reducible first | exact HB.out | apply below_alloc | apply pw_below_drewN | apply below_drew1) | exact HB.out)⟩⟩
    case round =>
     clear H'
     try clear c2
     try clear c2b0
     try clear p2
     obtain ⟨x5_2, x6_2, rfl, rfl, HA, HK2, HO_3, HB⟩ := hrel
     cases gk with
     | zero => exact absurd HA.out (by simp [galoisref01_limbs.l1])
     | succ k2 =>
      have H := HA.out
      clear HA
      simp only [galoisref01_limbs.l1] at H
      by_cases c4 : x6_2 < x4_1
      ·rw [if_pos c4] at H
       have c4b0 : decide (x6_2 < x4_1) = true := decide_eq_true c4
       clear c4
       by_cases c5 : 0 ≤ x6_2
       ·rw [if_pos c5] at H
        have c5b0 : decide (0 ≤ x6_2) = true := decide_eq_true c5
        clear c5
        by_cases c6 : x6_2 < (a0.size : Int)
        ·rw [if_pos c6] at H
         have c6b0 : decide (x6_2 < (a0.size : Int)) = true := decide_eq_true c6
         clear c6
         have H' := Aside0.mk H
         clear H
         have p7 : 0 ≤ (x6_2 : Int) := of_decide_eq_true (by first | (with_reducible assumption) | assumption)
         have q7 : x6_2 < (a0.size : Int) := of_decide_eq_true (by first | (with_reducible assumption) | assumption)
         have hx7 := bt_at a0 x6_2
         replace p7 := eq_true p7
         replace q7 := eq_true q7
         go_wp2
         go_roundg k2
         case measure => have := HK1.out; have := HK2.out; omega
         case rel => exact ⟨(IntKind.u64.wrap ((IntKind.u64.wrap (x5_2 * 256)) + (IntKind.u64.wrap (bt a0 x6_2)))), (wrap64 (x6_2 + 1)), (by first | rfl | (simp; done) | (simp [*]; done)), (by first | rfl | (simp; done) | (simp [*]; done)), H', ⟨by have := HK1.out; have := HK2.out; omega⟩, ⟨by (with_reducible repeat (first | apply Kd.R_alloc | apply Kd.R_drewN | apply Kd.R_drew)); exact HO_3.out⟩, ⟨by repeat (first | (with_reducible first | exact HB.out | apply below_alloc | apply pw_below_drewN | apply below_drew1) | exact HB.out)⟩⟩
        ·rw [if_neg c6] at H
         exact absurd H (by simp)
       ·rw [if_neg c5] at H
        exact absurd H (by simp)
      ·rw [if_neg c4] at H
       have c4b0 : decide (x6_2 < x4_1) = false := decide_eq_false c4
       clear c4
       by_cases c8 : x3_1.length < 17592186044416
       ·rw [if_pos c8] at H
        have LMc8 := Aside0.mk c8
        clear c8
        obtain ⟨y436, hy436⟩ : ∃ y_ : List Int, y_ = (x3_1 ++ [x5_2]) := ⟨_, rfl⟩
        replace H : (galoisref01_limbs.l0 k2 a0 y436 (wrap64 (x4_1 - 4))) = some r := by first | (rw [hy436]; with_reducible exact H) | (have H2_ := (Option.bind_some _ _).symm.trans H; rw [hy436]; with_reducible exact H2_) | (have H2_ := (Option.bind_some _ _).symm.trans H; with_reducible exact H2_) | with_reducible exact H | (rw [hy436]; exact H) | exact H
        have Ny436 := Aside0.mk hy436
        clear hy436
        have H' := Aside0.mk H
        clear H
        go_wp2_with (first | ((with_reducible refine gate_builtin (b := .append) (xs := #[.tmp 28, .tmp 30]) rfl ?_); at_builtin; refine Kd.R_append (Kd.int .u64) (w0 := w) w.heap.size rfl (.tmp 28) (.tmp 30) 68 49 (.int .u64 0) 8 rfl Try.underlying68 info49 rfl (by decide) (by omega) u3 x3_1 x5_2 [.int .u64 x5_2] (fun _ => True) (fun _ => False) rfl rfl ?aP (fun _ hk => hk.elim) ?aF ?aO ?aB ?aS ?aL ?_; (case aP => exact rfl); (case aB => exact (by repeat (first | (with_reducible first | exact HB.out | apply below_alloc | apply pw_below_drewN | apply below_drew1) | exact HB.out))); (case aF => exact (fun _ _ => trivial)); (case aO => exact (by (with_reducible repeat (first | apply Kd.R_alloc | apply Kd.R_drewN | apply Kd.R_drew)); exact HO_3.out)); (case aS => exact (below_size (by repeat (first | (with_reducible first | exact HB.out | apply below_alloc | apply pw_below_drewN | apply below_drew1) | exact HB.out)))); (case aL => have := LMc8.out; omega); intro v437 w9 ho hb hg hat; rw [← Ny436.out] at ho; have n0_ := Aside0.mk (hb); have n1_ := Aside0.mk (ho); clear HB; clear HO_3; have HB := n0_; have HO438 := n1_; clear n0_ n1_; clear ho hb hg hat))
        go_roundg k2
        case measure => have := HK1.out; have := HK2.out; omega
        case rel => exact ⟨(y436), (wrap64 (x4_1 - 4)), (by first | rfl | (simp; done) | (simp [*]; done)), H', ⟨by have := HK1.out; have := HK2.out; omega⟩, ⟨by (with_reducible repeat (first | apply Kd.R_alloc | apply Kd.R_drewN | apply Kd.R_drew)); exact HO438.out⟩, ⟨by repeat (first | (with_reducible first | exact HB.out | apply below_alloc | apply pw_below_drewN | apply below_drew1) | exact HB.out)⟩⟩
       ·rw [if_neg c8] at H
        exact absurd H (by simp)
   ·rw [if_neg c2] at H
    have c2b0 : decide (0 < x4_1) = false := decide_eq_false c2
    clear c2
    replace H := Option.bind_eq_some_iff.mp H
    obtain ⟨t433, A100, H⟩ := H
    replace H : (some t433) = some r := H
    have A10 := Aside0.mk A100
    clear A100
    obtain rfl := Option.some.inj H
    obtain ⟨Ao11, co11, eo11⟩ := Kd.R_slice HO_3.out
    subst eo11
    go_wp2_with (first | ((with_reducible refine gate_callee (f := 68) rfl ?_); refine goesL_ (some 33) rfl rfl Try.func68 (by kernel_rfl) rfl #[.slice Ao11 x3_1.length co11] rfl (by (try simp only [List.map_toArray, List.map_cons, List.map_nil]); first | done | rfl | (simp only [List.length_drop, List.length_take]; rfl)) ?_; (with_reducible refine (galoisref01_trim.calls k1 (fun k_ => some k_ = (.slice Ao11 x3_1.length co11 : Value).ownBlock) (.slice Ao11 x3_1.length co11) x3_1 t433 w _ ?side1 ?side2 A10.out).mono ?_); (case side1 => repeat (first | (with_reducible first | exact HB.out | apply below_alloc | apply pw_below_drewN | apply below_drew1) | exact HB.out)); (case side2 => exact Kd.R_tight rfl HO_3.out); rintro e w12 ⟨v434, rfl, ho0, hb, hkp⟩; refine ⟨_, rfl, ?_⟩; have n0_ := Aside0.mk (Kd.R_mono (ok' := fun k_ => True) ho0 (fun k_ hk_ => trivial)); have n1_ := Aside0.mk (hb); clear HB; clear HO_3; have HO435 := n0_; have HB := n1_; clear n0_ n1_; (try clear hb); (try clear hkp); (try clear ho0)))
    go_ret
    exact ⟨_, by first | rfl | (simp [errW_none, errW_some] <;> rfl) | (simp [*, errW_none, errW_some] <;> rfl), by (with_reducible repeat (first | apply Kd.R_alloc | apply Kd.R_drewN | apply Kd.R_drew)); exact HO435.out, by repeat (first | (with_reducible first | exact HB.out | apply below_alloc | apply pw_below_drewN | apply below_drew1) | exact HB.out)⟩
end Go.Proofs.Ytohkmnbnjacfaaa.All
namespace Go.Proofs.Ytohkmnbnjacfaaa.All
open Go.Proofs.YtohkmnbnjacfaaaX
open Go.RowKit Go.Proofs.YtohkmnbnjacfaaaW.PrintWords Go.Proofs.YtohkmnbnjacfaaaW.PrintLast Go.Proofs.YtohkmnbnjacfaaaW.PrintMore
attribute [local go_sem] max2_int min2_int max_two min_two max_three min_three max_four min_four
set_option linter.unusedVariables false
set_option linter.unusedSimpArgs false
end Go.Proofs.Ytohkmnbnjacfaaa.All
namespace Go.Proofs.Ytohkmnbnjacfaaa.All
open Go.Proofs.YtohkmnbnjacfaaaX
open Go.RowKit Go.Proofs.YtohkmnbnjacfaaaW.PrintWords Go.Proofs.YtohkmnbnjacfaaaW.PrintLast Go.Proofs.YtohkmnbnjacfaaaW.PrintMore
attribute [local go_sem] max2_int min2_int max_two min_two max_three min_three max_four min_four
set_option linter.unusedVariables false
set_option linter.unusedSimpArgs false
def galoisref01_Compare.j0 : Nat → ByteArray → ByteArray → Bool → Option (Int)
 | 0, _, _, _ => none
 | k + 1, x0, x1, x5 => if x5 = true then (some (-1)) else (if x0.toList = x1.toList then (some 0) else (some 1))
def galoisref01_Compare.f (k : Nat) (a0 : ByteArray) (a1 : ByteArray) : Option (Int) := if (a0.size : Int) < (a1.size : Int) then (galoisref01_Compare.j0 k a0 a1 true) else (if (a0.size : Int) = (a1.size : Int) then (galoisref01_Compare.j0 k a0 a1 (Op.bytesLess a0.toList a1.toList)) else (galoisref01_Compare.j0 k a0 a1 false))
theorem galoisref01_Compare.mono_l : ∀ k, (∀ y0 y1 y2, LeO (galoisref01_Compare.j0 k y0 y1 y2) (galoisref01_Compare.j0 (k + 1) y0 y1 y2))
 | 0 => fun _ _ _ r h => by simp [galoisref01_Compare.j0] at h
 | k + 1 => by
  have ih0 := galoisref01_Compare.mono_l k
  ·intro y0 y1 y2
   unfold galoisref01_Compare.j0
   repeat' first
   | (with_reducible exact ih0 _ _ _)
   | (with_reducible exact LeO.refl _)
   | (with_reducible exact LeO.none _)
   | (with_reducible refine LeO.ite ?_ ?_)
   | (with_reducible refine LeO.bind ?_ (fun _ => ?_))
   | exact ih0 _ _ _
   | exact LeO.none _
   | refine LeO.ite ?_ ?_
   | refine LeO.bind ?_ (fun _ => ?_)
theorem galoisref01_Compare.mono : ∀ a0 a1 k, LeO (galoisref01_Compare.f k a0 a1) (galoisref01_Compare.f (k + 1) a0 a1) := by
 intro a0 a1 k
 have ih0 := galoisref01_Compare.mono_l k
 unfold galoisref01_Compare.f
 repeat' first
   | (with_reducible exact ih0 _ _ _)
   | (with_reducible exact LeO.refl _)
   | (with_reducible exact LeO.none _)
   | (with_reducible refine LeO.ite ?_ ?_)
   | (with_reducible refine LeO.bind ?_ (fun _ => ?_))
   | exact ih0 _ _ _
   | exact LeO.none _
   | refine LeO.ite ?_ ?_
   | refine LeO.bind ?_ (fun _ => ?_)
set_option maxHeartbeats 8000000 in
set_option maxRecDepth 100000 in
theorem galoisref01_Compare.calls (k : Nat) (a0 : ByteArray) (a1 : ByteArray) (r : Int) (w : World) (h : galoisref01_Compare.f k a0 a1 = some r) :
  Calls Try.prog 39 #[.string a0, .string a1] w fun e w' => e = .returned (.int .i64 r) ∧ Drawn0 w w' := by
 have H : (if (a0.size : Int) < (a1.size : Int) then (galoisref01_Compare.j0 k a0 a1 true) else (if (a0.size : Int) = (a1.size : Int) then (galoisref01_Compare.j0 k a0 a1 (Op.bytesLess a0.toList a1.toList)) else (galoisref01_Compare.j0 k a0 a1 false))) = some r := h
 clear h
 have HC3 := Aside0.mk H
 clear H
 go_enter Try.func39, Try.ntmps39
 go_upto_region 1 with (fail)
 go_cut [5] (fun v5 wc => ∃ (kq : Nat) (x5_2 : Bool), v5 = .bool x5_2 ∧ Aside0 (galoisref01_Compare.j0 kq a0 a1 x5_2 = some r) ∧ Aside0 (kq ≤ k) ∧ Drawn0 w wc)
 case first =>
  have H := HC3.out
  clear HC3
  by_cases c4 : (a0.size : Int) < (a1.size : Int)
  ·rw [if_pos c4] at H
   have c4b0 : decide ((a0.size : Int) < (a1.size : Int)) = true := decide_eq_true c4
   have c4b1 : decide (a0.size < a1.size) = true := decide_eq_true (Int.ofNat_lt.mp c4)
   clear c4
   (first | rw [c4b0] | rw [c4b1] | (simp only [i64_w, i32_w]; rw [c4b0]) | skip)
   have H' := Aside0.mk H
   clear H
   go_wp2
   go_meet
   case rel => exact ⟨_, (true), (by first | rfl | (simp; done) | (simp [*]; done)), H', ⟨by first | omega | exact Nat.le_refl _⟩, by repeat (first | exact Drawn0.refl _ | apply Drawn0.step)⟩
  ·rw [if_neg c4] at H
   have c4b0 : decide ((a0.size : Int) < (a1.size : Int)) = false := decide_eq_false c4
   have c4b1 : decide (a0.size < a1.size) = false := decide_eq_false (fun h => c4 (Int.ofNat_lt.mpr h))
   clear c4
   (first | rw [c4b0] | rw [c4b1] | (simp only [i64_w, i32_w]; rw [c4b0]) | skip)
   by_cases c5 : (a0.size : Int) = (a1.size : Int)
   ·rw [if_pos c5] at H
    have c5b0 : ((a0.size : Int) == (a1.size : Int)) = true := beq_iff_eq.mpr c5
    have c5b1 : ((a0.size : Int) != (a1.size : Int)) = false := bne_eq_false_iff_eq.mpr c5
    have c5b2 : (a0.size == a1.size) = true := by first | simpa using c5 | (simp at c5 ⊢; omega)
    clear c5
    have H' := Aside0.mk H
    clear H
    go_wp2
    go_meet
    case rel => exact ⟨_, ((Op.bytesLess a0.toList a1.toList)), (by first | rfl | (simp; done) | (simp [*]; done)), H', ⟨by first | omega | exact Nat.le_refl _⟩, by repeat (first | exact Drawn0.refl _ | apply Drawn0.step)⟩
   ·rw [if_neg c5] at H
    have c5b0 : ((a0.size : Int) == (a1.size : Int)) = false := beq_eq_false_iff_ne.mpr c5
    have c5b1 : ((a0.size : Int) != (a1.size : Int)) = true := bne_iff_ne.mpr c5
    have c5b2 : (a0.size == a1.size) = false := by first | simpa using c5 | (simp at c5 ⊢; omega)
    have H' := Aside0.mk H
    clear H
    go_wp2
    go_meet
    case rel => exact ⟨_, (false), (by first | rfl | (simp; done) | (simp [*]; done)), H', ⟨by first | omega | exact Nat.le_refl _⟩, by repeat (first | exact Drawn0.refl _ | apply Drawn0.step)⟩
 case rest =>
  clear HC3
  try clear p2
  try clear c3
  try clear c4
  try clear c4b0
  try clear c4b1
  try clear c5
  try clear c5b0
  try clear c5b1
  try clear c5b2
  obtain ⟨kq, x5_2, rfl, HA, HJ2, ⟨mc2, rfl⟩⟩ := hcut
  cases kq with
  | zero => exact absurd HA.out (by simp [galoisref01_Compare.j0])
  | succ kj2 =>
   have H := HA.out
   clear HA
   simp only [galoisref01_Compare.j0] at H
   by_cases c6 : x5_2 = true
   ·subst c6
    have H1 : (some (-1)) = some r := by rw [if_pos rfl] at H; exact H
    clear H
    have H := H1
    clear H1
    obtain rfl := Option.some.inj H
    go_wp2
    go_ret
    exact ⟨by first | rfl | (simp; done) | (simp [*]; done), by repeat (first | exact Drawn0.refl _ | apply Drawn0.step)⟩
   ·replace c6 := Bool.eq_false_iff.mpr c6
    subst c6
    have H1 : (if a0.toList = a1.toList then (some 0) else (some 1)) = some r := by rw [if_neg (show ¬ (false = true) by decide)] at H; exact H
    clear H
    have H := H1
    clear H1
    by_cases c7 : a0.toList = a1.toList
    ·rw [if_pos c7] at H
     have c7b0 : (a0.toList == a1.toList) = true := beq_iff_eq.mpr c7
     have c7b1 : (a0.toList != a1.toList) = false := bne_eq_false_iff_eq.mpr c7
     clear c7
     obtain rfl := Option.some.inj H
     go_wp2
     go_ret
     exact ⟨by first | rfl | (simp; done) | (simp [*]; done), by repeat (first | exact Drawn0.refl _ | apply Drawn0.step)⟩
    ·rw [if_neg c7] at H
     have c7b0 : (a0.toList == a1.toList) = false := beq_eq_false_iff_ne.mpr c7
     have c7b1 : (a0.toList != a1.toList) = true := bne_iff_ne.mpr c7
     obtain rfl := Option.some.inj H
     go_wp2
     go_ret
     exact ⟨by first | rfl | (simp; done) | (simp [*]; done), by repeat (first | exact Drawn0.refl _ | apply Drawn0.step)⟩
end Go.Proofs.Ytohkmnbnjacfaaa.All
namespace Go.Proofs.Ytohkmnbnjacfaaa.All
open Go.Proofs.YtohkmnbnjacfaaaX
open Go.RowKit Go.Proofs.YtohkmnbnjacfaaaW.PrintWords Go.Proofs.YtohkmnbnjacfaaaW.PrintLast Go.Proofs.YtohkmnbnjacfaaaW.PrintMore
attribute [local go_sem] max2_int min2_int max_two min_two max_three min_three max_four min_four
set_option linter.unusedVariables false
set_option linter.unusedSimpArgs false
mutual
def galoisref01_Add.l0 : Nat → List Int → List Int → List Int → Int → Int → Option (ByteArray)
 | 0, _, _, _, _, _ => none
 | k + 1, x5, x6, x7, x8, x9 => if x9 < (x5.length : Int) then (galoisref01_Add.j1 k x5 x6 x7 x8 x9 true) else (if x9 < (x6.length : Int) then (galoisref01_Add.j1 k x5 x6 x7 x8 x9 true) else (galoisref01_Add.j1 k x5 x6 x7 x8 x9 (decide (x8 > 0))))
def galoisref01_Add.j1 : Nat → List Int → List Int → List Int → Int → Int → Bool → Option (ByteArray)
 | 0, _, _, _, _, _, _ => none
 | k + 1, x5, x6, x7, x8, x9, x28 => if x28 = true then (if x9 < (x5.length : Int) then (if 0 ≤ x9 then (if x9 < (x6.length : Int) then (if x7.length < 17592186044416 then (galoisref01_Add.l0 k x5 x6 (x7 ++ [Go.bits .and .u64 (IntKind.u64.wrap ((IntKind.u64.wrap (x8 + (rd x5 x9))) + (rd x6 x9))) 4294967295]) ((IntKind.u64.wrap ((IntKind.u64.wrap (x8 + (rd x5 x9))) + (rd x6 x9))) / 4294967296) (wrap64 (x9 + 1))) else (none)) else (if x7.length < 17592186044416 then (galoisref01_Add.l0 k x5 x6 (x7 ++ [Go.bits .and .u64 (IntKind.u64.wrap (x8 + (rd x5 x9))) 4294967295]) ((IntKind.u64.wrap (x8 + (rd x5 x9))) / 4294967296) (wrap64 (x9 + 1))) else (none))) else (none)) else (if x9 < (x6.length : Int) then (if 0 ≤ x9 then (if x7.length < 17592186044416 then (galoisref01_Add.l0 k x5 x6 (x7 ++ [Go.bits .and .u64 (IntKind.u64.wrap (x8 + (rd x6 x9))) 4294967295]) ((IntKind.u64.wrap (x8 + (rd x6 x9))) / 4294967296) (wrap64 (x9 + 1))) else (none)) else (none)) else (if x7.length < 17592186044416 then (galoisref01_Add.l0 k x5 x6 (x7 ++ [Go.bits .and .u64 x8 4294967295]) (x8 / 4294967296) (wrap64 (x9 + 1))) else (none)))) else ((galoisref01_pack.f k x7).bind fun t511 => (some t511))
end
def galoisref01_Add.f (k : Nat) (a0 : ByteArray) (a1 : ByteArray) : Option (ByteArray) := (galoisref01_limbs.f k a0).bind fun t505 => ((galoisref01_limbs.f k a1).bind fun t508 => (galoisref01_Add.l0 k t505 t508 ([] : List Int) 0 0))
theorem galoisref01_Add.mono_l : ∀ k, (∀ y0 y1 y2 y3 y4, LeO (galoisref01_Add.l0 k y0 y1 y2 y3 y4) (galoisref01_Add.l0 (k + 1) y0 y1 y2 y3 y4)) ∧ (∀ y0 y1 y2 y3 y4 y5, LeO (galoisref01_Add.j1 k y0 y1 y2 y3 y4 y5) (galoisref01_Add.j1 (k + 1) y0 y1 y2 y3 y4 y5))
 | 0 => ⟨fun _ _ _ _ _ r h => by simp [galoisref01_Add.l0] at h, fun _ _ _ _ _ _ r h => by simp [galoisref01_Add.j1] at h⟩
 | k + 1 => by
  obtain ⟨ih0, ih1⟩ := galoisref01_Add.mono_l k
  refine ⟨?_, ?_⟩
  ·intro y0 y1 y2 y3 y4
   unfold galoisref01_Add.l0
   repeat' first
   | (with_reducible exact ih0 _ _ _ _ _)
   | (with_reducible exact ih1 _ _ _ _ _ _)
   | (with_reducible exact galoisref01_limbs.mono _ _)
   | (with_reducible exact galoisref01_pack.mono _ _)
   | (with_reducible exact LeO.refl _)
   | (with_reducible exact LeO.none _)
   | (with_reducible refine LeO.ite ?_ ?_)
   | (with_reducible refine LeO.bind ?_ (fun _ => ?_))
   | exact ih0 _ _ _ _ _
   | exact ih1 _ _ _ _ _ _
   | exact galoisref01_limbs.mono _ _
   | exact galoisref01_pack.mono _ _
   | exact LeO.none _
   | refine LeO.ite ?_ ?_
   | refine LeO.bind ?_ (fun _ => ?_)
  ·intro y0 y1 y2 y3 y4 y5
   unfold galoisref01_Add.j1
   repeat' first
   | (with_reducible exact ih0 _ _ _ _ _)
   | (with_reducible exact ih1 _ _ _ _ _ _)
   | (with_reducible exact galoisref01_limbs.mono _ _)
   | (with_reducible exact galoisref01_pack.mono _ _)
   | (with_reducible exact LeO.refl _)
   | (with_reducible exact LeO.none _)
   | (with_reducible refine LeO.ite ?_ ?_)
   | (with_reducible refine LeO.bind ?_ (fun _ => ?_))
   | exact ih0 _ _ _ _ _
   | exact ih1 _ _ _ _ _ _
   | exact galoisref01_limbs.mono _ _
   | exact galoisref01_pack.mono _ _
   | exact LeO.none _
   | refine LeO.ite ?_ ?_
   | refine LeO.bind ?_ (fun _ => ?_)
theorem galoisref01_Add.mono : ∀ a0 a1 k, LeO (galoisref01_Add.f k a0 a1) (galoisref01_Add.f (k + 1) a0 a1) := by
 intro a0 a1 k
 obtain ⟨ih0, ih1⟩ := galoisref01_Add.mono_l k
 unfold galoisref01_Add.f
 repeat' first
   | (with_reducible exact ih0 _ _ _ _ _)
   | (with_reducible exact ih1 _ _ _ _ _ _)
   | (with_reducible exact galoisref01_limbs.mono _ _)
   | (with_reducible exact galoisref01_pack.mono _ _)
   | (with_reducible exact LeO.refl _)
   | (with_reducible exact LeO.none _)
   | (with_reducible refine LeO.ite ?_ ?_)
   | (with_reducible refine LeO.bind ?_ (fun _ => ?_))
   | exact ih0 _ _ _ _ _
   | exact ih1 _ _ _ _ _ _
   | exact galoisref01_limbs.mono _ _
   | exact galoisref01_pack.mono _ _
   | exact LeO.none _
   | refine LeO.ite ?_ ?_
   | refine LeO.bind ?_ (fun _ => ?_)
set_option maxHeartbeats 8000000 in
set_option maxRecDepth 100000 in
theorem galoisref01_Add.calls (k : Nat) (a0 : ByteArray) (a1 : ByteArray) (r : ByteArray) (w : World) (h : galoisref01_Add.f k a0 a1 = some r) :
  Calls Try.prog 40 #[.string a0, .string a1] w fun e w' => e = .returned (.string r) ∧ Below w.heap.size w w' := by
 have HB := Aside0.mk (Below.refl w.heap.size w)
 have H : ((galoisref01_limbs.f k a0).bind fun t505 => ((galoisref01_limbs.f k a1).bind fun t508 => (galoisref01_Add.l0 k t505 t508 ([] : List Int) 0 0))) = some r := h
 clear h
 replace H := Option.bind_eq_some_iff.mp H
 obtain ⟨t505, A30, H⟩ := H
 replace H : ((galoisref01_limbs.f k a1).bind fun t508 => (galoisref01_Add.l0 k t505 t508 ([] : List Int) 0 0)) = some r := H
 have A3 := Aside0.mk A30
 clear A30
 replace H := Option.bind_eq_some_iff.mp H
 obtain ⟨t508, A40, H⟩ := H
 replace H : (galoisref01_Add.l0 k t505 t508 ([] : List Int) 0 0) = some r := H
 have A4 := Aside0.mk A40
 clear A40
 have H' := Aside0.mk H
 clear H
 go_enter Try.func40, Try.ntmps40
 go_wp2_with (first | ((with_reducible refine gate_callee (f := 51) rfl ?_); refine goesL_ (some 12) rfl rfl Try.func51 (by kernel_rfl) rfl #[.string a0] rfl (by (try simp only [List.map_toArray, List.map_cons, List.map_nil]); first | done | rfl | (simp only [List.length_drop, List.length_take]; rfl)) ?_; (with_reducible refine (galoisref01_limbs.calls k a0 t505 _ A3.out).mono ?_); rintro e w5 ⟨v506, rfl, ho0, hb⟩; refine ⟨_, rfl, ?_⟩; have n0_ := Aside0.mk (Kd.R_lower ho0 (below_size (by repeat (first | (with_reducible first | exact HB.out | apply below_alloc | apply pw_below_drewN | apply below_drew1) | exact HB.out)))); have n1_ := Aside0.mk (below_step (by repeat (first | (with_reducible first | exact HB.out | apply below_alloc | apply pw_below_drewN | apply below_drew1) | exact HB.out)) hb); clear HB; have HO507 := n0_; have HB := n1_; clear n0_ n1_; (try clear hb); (try clear hb2); (try clear hk); (try clear hi); (try clear ho0)) | ((with_reducible refine gate_callee (f := 51) rfl ?_); refine goesL_ (some 14) rfl rfl Try.func51 (by kernel_rfl) rfl #[.string a1] rfl (by (try simp only [List.map_toArray, List.map_cons, List.map_nil]); first | done | rfl | (simp only [List.length_drop, List.length_take]; rfl)) ?_; (with_reducible refine (galoisref01_limbs.calls k a1 t508 _ A4.out).mono ?_); rintro e w6 ⟨v509, rfl, ho0, hb⟩; refine ⟨_, rfl, ?_⟩; have n0_ := Aside0.mk (Kd.R_elder' (by (with_reducible repeat (first | apply Kd.R_alloc | apply Kd.R_drewN | apply Kd.R_drew)); exact HO507.out) (Kd.R_base ho0) hb); have n1_ := Aside0.mk (Kd.R_lower (Kd.R_new' ho0 (Kd.R_lt (by (with_reducible repeat (first | apply Kd.R_alloc | apply Kd.R_drewN | apply Kd.R_drew)); exact HO507.out))) (below_size (by repeat (first | (with_reducible first | exact HB.out | apply below_alloc | apply pw_below_drewN | apply below_drew1) | exact HB.out)))); have n2_ := Aside0.mk (below_step (by repeat (first | (with_reducible first | exact HB.out | apply below_alloc | apply pw_below_drewN | apply below_drew1) | exact HB.out)) hb); clear HO507; clear HB; have HO507 := n0_; have HO510 := n1_; have HB := n2_; clear n0_ n1_ n2_; (try clear hb); (try clear hb2); (try clear hk); (try clear hi); (try clear ho0)))
 go_loopg [7, 8, 9] k (fun kq v7 v8 v9 w' => ∃ (x7_1 : List Int) (x8_1 : Int) (x9_1 : Int), v8 = .int .u64 x8_1 ∧ v9 = .int .i64 x9_1 ∧ Aside0 (galoisref01_Add.l0 kq t505 t508 x7_1 x8_1 x9_1 = some r) ∧ Aside0 (kq ≤ k) ∧ Aside0 (Kd.R (Kd.int .u64) 49 w' w.heap.size (fun k_ => some k_ ≠ (v509 : Value).ownBlock ∧ some k_ ≠ (v7 : Value).ownBlock) v506 t505) ∧ Aside0 (Kd.R (Kd.int .u64) 49 w' w.heap.size (fun k_ => some k_ ≠ (v506 : Value).ownBlock ∧ some k_ ≠ (v7 : Value).ownBlock) v509 t508) ∧ Aside0 (Kd.R (Kd.int .u64) 49 w' w.heap.size (fun k_ => some k_ ≠ (v506 : Value).ownBlock ∧ some k_ ≠ (v509 : Value).ownBlock) v7 x7_1) ∧ Aside0 (Below w.heap.size w w'))
 case atStart => exact ⟨(([] : List Int)), (0), (0), (by first | rfl | (simp; done) | (simp [*]; done)), (by first | rfl | (simp; done) | (simp [*]; done)), H', ⟨Nat.le_refl _⟩, ⟨by (with_reducible repeat (first | apply Kd.R_alloc | apply Kd.R_drewN | apply Kd.R_drew)); exact Kd.R_mono HO507.out (fun _ hk => ⟨hk.2, (by simp [Value.ownBlock])⟩)⟩, ⟨by (with_reducible repeat (first | apply Kd.R_alloc | apply Kd.R_drewN | apply Kd.R_drew)); exact Kd.R_mono HO510.out (fun _ hk => ⟨hk.2, (by simp [Value.ownBlock])⟩)⟩, ⟨by first | exact Kd.R_nil _ _ _ _ _ | exact Kd.N_nil _ _ _ _ _ | exact Kd.V_nil _ _ _ _ _ | exact Kd.Q_nil _ _ _ _ _ | exact Kd.S_nil _ _ _ _ _⟩, ⟨by repeat (first | (with_reducible first | exact HB.out | apply below_alloc | apply pw_below_drewN | apply below_drew1) | exact HB.out)⟩⟩
 case round =>
  clear H'
  try clear p2
  try clear c4
  try clear c5
  obtain ⟨x7_1, x8_1, x9_1, rfl, rfl, HA, HK1, HO_5, HO_6, HO_7, HB⟩ := hrel
  cases gk with
  | zero => exact absurd HA.out (by simp [galoisref01_Add.l0])
  | succ k1 =>
   have H := HA.out
   clear HA
   simp only [galoisref01_Add.l0] at H
   have HC7 := Aside0.mk H
   clear H
   go_upto_region 5 with (fail)
   go_cut [28] (fun v28 wc => ∃ (kq : Nat) (x28_6 : Bool), v28 = .bool x28_6 ∧ Aside0 (galoisref01_Add.j1 kq t505 t508 x7_1 x8_1 x9_1 x28_6 = some r) ∧ Aside0 (kq ≤ k1) ∧ Aside0 (Kd.R (Kd.int .u64) 49 wc w.heap.size (fun k_ => some k_ ≠ (v509 : Value).ownBlock ∧ some k_ ≠ (u7 : Value).ownBlock) v506 t505) ∧ Aside0 (Kd.R (Kd.int .u64) 49 wc w.heap.size (fun k_ => some k_ ≠ (v506 : Value).ownBlock ∧ some k_ ≠ (u7 : Value).ownBlock) v509 t508) ∧ Aside0 (Kd.R (Kd.int .u64) 49 wc w.heap.size (fun k_ => some k_ ≠ (v506 : Value).ownBlock ∧ some k_ ≠ (v509 : Value).ownBlock) u7 x7_1) ∧ Aside0 (Below w.heap.size w wc))
   case first =>
    have H := HC7.out
    clear HC7
    by_cases c8 : x9_1 < (t505.length : Int)
    ·rw [if_pos c8] at H
     have c8b0 : decide (x9_1 < (t505.length : Int)) = true := decide_eq_true c8
     clear c8
     (first | rw [c8b0] | rw [c8b1] | (simp only [i64_w, i32_w]; rw [c8b0]) | skip)
     have H' := Aside0.mk H
     clear H
     obtain ⟨Ao9, co9, eo9⟩ := Kd.R_slice HO_5.out
     subst eo9
     go_wp2
     go_meet
     case rel => exact ⟨_, (true), (by first | rfl | (simp; done) | (simp [*]; done)), H', ⟨by have := HK1.out; first | omega | exact Nat.le_refl _⟩, ⟨by (with_reducible repeat (first | apply Kd.R_alloc | apply Kd.R_drewN | apply Kd.R_drew)); exact HO_5.out⟩, ⟨by (with_reducible repeat (first | apply Kd.R_alloc | apply Kd.R_drewN | apply Kd.R_drew)); exact HO_6.out⟩, ⟨by (with_reducible repeat (first | apply Kd.R_alloc | apply Kd.R_drewN | apply Kd.R_drew)); exact HO_7.out⟩, ⟨by repeat (first | (with_reducible first | exact HB.out | apply below_alloc | apply pw_below_drewN | apply below_drew1) | exact HB.out)⟩⟩
    ·rw [if_neg c8] at H
     have c8b0 : decide (x9_1 < (t505.length : Int)) = false := decide_eq_false c8
     clear c8
     (first | rw [c8b0] | rw [c8b1] | (simp only [i64_w, i32_w]; rw [c8b0]) | skip)
     by_cases c10 : x9_1 < (t508.length : Int)
     ·rw [if_pos c10] at H
      have c10b0 : decide (x9_1 < (t508.length : Int)) = true := decide_eq_true c10
      clear c10
      have H' := Aside0.mk H
      clear H
      obtain ⟨Ao11, co11, eo11⟩ := Kd.R_slice HO_5.out
      subst eo11
      obtain ⟨Ao12, co12, eo12⟩ := Kd.R_slice HO_6.out
      subst eo12
      go_wp2
      go_meet
      case rel => exact ⟨_, (true), (by first | rfl | (simp; done) | (simp [*]; done)), H', ⟨by have := HK1.out; first | omega | exact Nat.le_refl _⟩, ⟨by (with_reducible repeat (first | apply Kd.R_alloc | apply Kd.R_drewN | apply Kd.R_drew)); exact HO_5.out⟩, ⟨by (with_reducible repeat (first | apply Kd.R_alloc | apply Kd.R_drewN | apply Kd.R_drew)); exact HO_6.out⟩, ⟨by (with_reducible repeat (first | apply Kd.R_alloc | apply Kd.R_drewN | apply Kd.R_drew)); exact HO_7.out⟩, ⟨by repeat (first | (with_reducible first | exact HB.out | apply below_alloc | apply pw_below_drewN | apply below_drew1) | exact HB.out)⟩⟩
     ·rw [if_neg c10] at H
      have c10b0 : decide (x9_1 < (t508.length : Int)) = false := decide_eq_false c10
      clear c10
      have H' := Aside0.mk H
      clear H
      obtain ⟨Ao13, co13, eo13⟩ := Kd.R_slice HO_5.out
      subst eo13
      obtain ⟨Ao14, co14, eo14⟩ := Kd.R_slice HO_6.out
      subst eo14
      go_wp2
      go_meet
      case rel => exact ⟨_, (decide (x8_1 > 0)), (by first | rfl | (simp; done) | (simp [*]; done)), H', ⟨by have := HK1.out; first | omega | exact Nat.le_refl _⟩, ⟨by (with_reducible repeat (first | apply Kd.R_alloc | apply Kd.R_drewN | apply Kd.R_drew)); exact HO_5.out⟩, ⟨by (with_reducible repeat (first | apply Kd.R_alloc | apply Kd.R_drewN | apply Kd.R_drew)); exact HO_6.out⟩, ⟨by (with_reducible repeat (first | apply Kd.R_alloc | apply Kd.R_drewN | apply Kd.R_drew)); exact HO_7.out⟩, ⟨by repeat (first | (with_reducible first | exact HB.out | apply below_alloc | apply pw_below_drewN | apply below_drew1) | exact HB.out)⟩⟩
   case rest =>
    clear HC7
    try clear c1
    try clear p2
    try clear c4
    try clear c5
    try clear c8
    try clear c8b0
    try clear c10
    try clear c10b0
    try clear p2
    obtain ⟨kq, x28_6, rfl, HA, HJ6, HO_5, HO_6, HO_7, HB⟩ := hcut
    cases kq with
    | zero => exact absurd HA.out (by simp [galoisref01_Add.j1])
    | succ kj6 =>
     have H := HA.out
     clear HA
     simp only [galoisref01_Add.j1] at H
     by_cases c15 : x28_6 = true
     ·subst c15
      have H1 : (if x9_1 < (t505.length : Int) then (if 0 ≤ x9_1 then (if x9_1 < (t508.length : Int) then (if x7_1.length < 17592186044416 then (galoisref01_Add.l0 kj6 t505 t508 (x7_1 ++ [Go.bits .and .u64 (IntKind.u64.wrap ((IntKind.u64.wrap (x8_1 + (rd t505 x9_1))) + (rd t508 x9_1))) 4294967295]) ((IntKind.u64.wrap ((IntKind.u64.wrap (x8_1 + (rd t505 x9_1))) + (rd t508 x9_1))) / 4294967296) (wrap64 (x9_1 + 1))) else (none)) else (if x7_1.length < 17592186044416 then (galoisref01_Add.l0 kj6 t505 t508 (x7_1 ++ [Go.bits .and .u64 (IntKind.u64.wrap (x8_1 + (rd t505 x9_1))) 4294967295]) ((IntKind.u64.wrap (x8_1 + (rd t505 x9_1))) / 4294967296) (wrap64 (x9_1 + 1))) else (none))) else (none)) else (if x9_1 < (t508.length : Int) then (if 0 ≤ x9_1 then (if x7_1.length < 17592186044416 then (galoisref01_Add.l0 kj6 t505 t508 (x7_1 ++ [Go.bits .and .u64 (IntKind.u64.wrap (x8_1 + (rd t508 x9_1))) 4294967295]) ((IntKind.u64.wrap (x8_1 + (rd t508 x9_1))) / 4294967296) (wrap64 (x9_1 + 1))) else (none)) else (none)) else (if x7_1.length < 17592186044416 then (galoisref01_Add.l0 kj6 t505 t508 (x7_1 ++ [Go.bits .and .u64 x8_1 4294967295]) (x8_1 / 4294967296) (wrap64 (x9_1 + 1))) else (none)))) = some r := by rw [if_pos rfl] at H; exact H
      clear H
      have H := H1
      clear H1
      by_cases c16 : x9_1 < (t505.length : Int)
      ·rw [if_pos c16] at H
       have c16b0 : decide (x9_1 < (t505.length : Int)) = true := decide_eq_true c16
       clear c16
       by_cases c17 : 0 ≤ x9_1
       ·rw [if_pos c17] at H
        have c17b0 : decide (0 ≤ x9_1) = true := decide_eq_true c17
        clear c17
        by_cases c18 : x9_1 < (t508.length : Int)
        ·rw [if_pos c18] at H
         have c18b0 : decide (x9_1 < (t508.length : Int)) = true := decide_eq_true c18
         clear c18
         by_cases c19 : x7_1.length < 17592186044416
         ·rw [if_pos c19] at H
          have LMc19 := Aside0.mk c19
          clear c19
          obtain ⟨y514, hy514⟩ : ∃ y_ : List Int, y_ = (x7_1 ++ [Go.bits .and .u64 (IntKind.u64.wrap ((IntKind.u64.wrap (x8_1 + (rd t505 x9_1))) + (rd t508 x9_1))) 4294967295]) := ⟨_, rfl⟩
          replace H : (galoisref01_Add.l0 kj6 t505 t508 y514 ((IntKind.u64.wrap ((IntKind.u64.wrap (x8_1 + (rd t505 x9_1))) + (rd t508 x9_1))) / 4294967296) (wrap64 (x9_1 + 1))) = some r := by first | (rw [hy514]; with_reducible exact H) | (have H2_ := (Option.bind_some _ _).symm.trans H; rw [hy514]; with_reducible exact H2_) | (have H2_ := (Option.bind_some _ _).symm.trans H; with_reducible exact H2_) | with_reducible exact H | (rw [hy514]; exact H) | exact H
          have Ny514 := Aside0.mk hy514
          clear hy514
          have H' := Aside0.mk H
          clear H
          obtain ⟨Ao20, co20, eo20⟩ := Kd.R_slice HO_5.out
          subst eo20
          have p512 : 0 ≤ (x9_1 : Int) := of_decide_eq_true (by first | (with_reducible assumption) | assumption)
          have q512 : x9_1 < (t505.length : Int) := of_decide_eq_true (by first | (with_reducible assumption) | assumption)
          obtain ⟨ad512, e512, hx512_0⟩ := Kd.at_int (Kd.R_reads' HO_5.out).2.2 x9_1 p512 q512
          cases e512
          replace p512 := eq_true p512
          replace q512 := eq_true q512
          obtain ⟨Ao21, co21, eo21⟩ := Kd.R_slice HO_6.out
          subst eo21
          have p513 : 0 ≤ (x9_1 : Int) := of_decide_eq_true (by first | (with_reducible assumption) | assumption)
          have q513 : x9_1 < (t508.length : Int) := of_decide_eq_true (by first | (with_reducible assumption) | assumption)
          obtain ⟨ad513, e513, hx513_0⟩ := Kd.at_int (Kd.R_reads' HO_6.out).2.2 x9_1 p513 q513
          cases e513
          replace p513 := eq_true p513
          replace q513 := eq_true q513
          go_wp2_with (first | ((with_reducible refine gate_builtin (b := .append) (xs := #[.tmp 52, .tmp 55]) rfl ?_); (try (refine gate_guard (by rfl) ?_; dsimp only)); at_builtin; refine Kd.R_append (Kd.int .u64) (w0 := w) w.heap.size rfl (.tmp 52) (.tmp 55) 68 49 (.int .u64 0) 8 rfl Try.underlying68 info49 rfl (by decide) (by omega) u7 x7_1 (Go.bits .and .u64 (IntKind.u64.wrap ((IntKind.u64.wrap (x8_1 + (rd t505 x9_1))) + (rd t508 x9_1))) 4294967295) [.int .u64 (Go.bits .and .u64 (IntKind.u64.wrap ((IntKind.u64.wrap (x8_1 + (rd t505 x9_1))) + (rd t508 x9_1))) 4294967295)] (fun k_ => some k_ ≠ (.slice (some ad512) t505.length co20 : Value).ownBlock ∧ some k_ ≠ (.slice (some ad513) t508.length co21 : Value).ownBlock) (fun _ => False) rfl rfl ?aP (fun _ hk => hk.elim) ?aF ?aO ?aB ?aS ?aL ?_; (case aP => exact rfl); (case aB => exact (by repeat (first | (with_reducible first | exact HB.out | apply below_alloc | apply pw_below_drewN | apply below_drew1) | exact HB.out))); (case aF => exact (fun k_ hk => ⟨Kd.fresh' (Kd.R_lt (by (with_reducible repeat (first | apply Kd.R_alloc | apply Kd.R_drewN | apply Kd.R_drew)); exact HO_5.out)) k_ hk, Kd.fresh' (Kd.R_lt (by (with_reducible repeat (first | apply Kd.R_alloc | apply Kd.R_drewN | apply Kd.R_drew)); exact HO_6.out)) k_ hk⟩)); (case aO => exact (by (with_reducible repeat (first | apply Kd.R_alloc | apply Kd.R_drewN | apply Kd.R_drew)); exact HO_7.out)); (case aS => exact (below_size (by repeat (first | (with_reducible first | exact HB.out | apply below_alloc | apply pw_below_drewN | apply below_drew1) | exact HB.out)))); (case aL => have := LMc19.out; omega); intro v515 w22 ho hb hg hat; rw [← Ny514.out] at ho; have n0_ := Aside0.mk (Kd.R_after (ok := (fun k_ => some k_ ≠ (.slice (some ad513) t508.length co21 : Value).ownBlock)) (by (with_reducible repeat (first | apply Kd.R_alloc | apply Kd.R_drewN | apply Kd.R_drew)); exact HO_5.out) hg hat); have n1_ := Aside0.mk (Kd.R_after (ok := (fun k_ => some k_ ≠ (.slice (some ad512) t505.length co20 : Value).ownBlock)) (by (with_reducible repeat (first | apply Kd.R_alloc | apply Kd.R_drewN | apply Kd.R_drew)); exact HO_6.out) hg hat); have n2_ := Aside0.mk (hb); have n3_ := Aside0.mk (ho); clear HO_5; clear HO_6; clear HB; clear HO_7; have HO_5 := n0_; have HO_6 := n1_; have HB := n2_; have HO516 := n3_; clear n0_ n1_ n2_ n3_; clear ho hb hg hat))
          go_roundg kj6
          case measure => have := HK1.out; have := HJ6.out; omega
          case rel => exact ⟨(y514), ((IntKind.u64.wrap ((IntKind.u64.wrap (x8_1 + (rd t505 x9_1))) + (rd t508 x9_1))) / 4294967296), (wrap64 (x9_1 + 1)), (by first | rfl | (simp; done) | (simp [*]; done)), (by first | rfl | (simp; done) | (simp [*]; done)), H', ⟨by have := HK1.out; have := HJ6.out; omega⟩, ⟨by (with_reducible repeat (first | apply Kd.R_alloc | apply Kd.R_drewN | apply Kd.R_drew)); exact HO_5.out⟩, ⟨by (with_reducible repeat (first | apply Kd.R_alloc | apply Kd.R_drewN | apply Kd.R_drew)); exact HO_6.out⟩, ⟨by (with_reducible repeat (first | apply Kd.R_alloc | apply Kd.R_drewN | apply Kd.R_drew)); exact HO516.out⟩, ⟨by repeat (first | (with_reducible first | exact HB.out | apply below_alloc | apply pw_below_drewN | apply below_drew1) | exact HB.out)⟩⟩
         ·rw [if_neg c19] at H
          exact absurd H (by simp)
        ·rw [if_neg c18] at H
         have c18b0 : decide (x9_1 < (t508.length : Int)) = false := decide_eq_false c18
         clear c18
         by_cases c23 : x7_1.length < 17592186044416
         ·rw [if_pos c23] at H
          have LMc23 := Aside0.mk c23
          clear c23
          obtain ⟨y517, hy517⟩ : ∃ y_ : List Int, y_ = (x7_1 ++ [Go.bits .and .u64 (IntKind.u64.wrap (x8_1 + (rd t505 x9_1))) 4294967295]) := ⟨_, rfl⟩
          replace H : (galoisref01_Add.l0 kj6 t505 t508 y517 ((IntKind.u64.wrap (x8_1 + (rd t505 x9_1))) / 4294967296) (wrap64 (x9_1 + 1))) = some r := by first | (rw [hy517]; with_reducible exact H) | (have H2_ := (Option.bind_some _ _).symm.trans H; rw [hy517]; with_reducible exact H2_) | (have H2_ := (Option.bind_some _ _).symm.trans H; with_reducible exact H2_) | with_reducible exact H | (rw [hy517]; exact H) | exact H
          have Ny517 := Aside0.mk hy517
          clear hy517
          have H' := Aside0.mk H
          clear H
          obtain ⟨Ao24, co24, eo24⟩ := Kd.R_slice HO_5.out
          subst eo24
          have p512 : 0 ≤ (x9_1 : Int) := of_decide_eq_true (by first | (with_reducible assumption) | assumption)
          have q512 : x9_1 < (t505.length : Int) := of_decide_eq_true (by first | (with_reducible assumption) | assumption)
          obtain ⟨ad512, e512, hx512_0⟩ := Kd.at_int (Kd.R_reads' HO_5.out).2.2 x9_1 p512 q512
          cases e512
          replace p512 := eq_true p512
          replace q512 := eq_true q512
          obtain ⟨Ao25, co25, eo25⟩ := Kd.R_slice HO_6.out
          subst eo25
          go_wp2_with (first | ((with_reducible refine gate_builtin (b := .append) (xs := #[.tmp 52, .tmp 55]) rfl ?_); (try (refine gate_guard (by rfl) ?_; dsimp only)); at_builtin; refine Kd.R_append (Kd.int .u64) (w0 := w) w.heap.size rfl (.tmp 52) (.tmp 55) 68 49 (.int .u64 0) 8 rfl Try.underlying68 info49 rfl (by decide) (by omega) u7 x7_1 (Go.bits .and .u64 (IntKind.u64.wrap (x8_1 + (rd t505 x9_1))) 4294967295) [.int .u64 (Go.bits .and .u64 (IntKind.u64.wrap (x8_1 + (rd t505 x9_1))) 4294967295)] (fun k_ => some k_ ≠ (.slice (some ad512) t505.length co24 : Value).ownBlock ∧ some k_ ≠ (.slice Ao25 t508.length co25 : Value).ownBlock) (fun _ => False) rfl rfl ?aP (fun _ hk => hk.elim) ?aF ?aO ?aB ?aS ?aL ?_; (case aP => exact rfl); (case aB => exact (by repeat (first | (with_reducible first | exact HB.out | apply below_alloc | apply pw_below_drewN | apply below_drew1) | exact HB.out))); (case aF => exact (fun k_ hk => ⟨Kd.fresh' (Kd.R_lt (by (with_reducible repeat (first | apply Kd.R_alloc | apply Kd.R_drewN | apply Kd.R_drew)); exact HO_5.out)) k_ hk, Kd.fresh' (Kd.R_lt (by (with_reducible repeat (first | apply Kd.R_alloc | apply Kd.R_drewN | apply Kd.R_drew)); exact HO_6.out)) k_ hk⟩)); (case aO => exact (by (with_reducible repeat (first | apply Kd.R_alloc | apply Kd.R_drewN | apply Kd.R_drew)); exact HO_7.out)); (case aS => exact (below_size (by repeat (first | (with_reducible first | exact HB.out | apply below_alloc | apply pw_below_drewN | apply below_drew1) | exact HB.out)))); (case aL => have := LMc23.out; omega); intro v518 w26 ho hb hg hat; rw [← Ny517.out] at ho; have n0_ := Aside0.mk (Kd.R_after (ok := (fun k_ => some k_ ≠ (.slice Ao25 t508.length co25 : Value).ownBlock)) (by (with_reducible repeat (first | apply Kd.R_alloc | apply Kd.R_drewN | apply Kd.R_drew)); exact HO_5.out) hg hat); have n1_ := Aside0.mk (Kd.R_after (ok := (fun k_ => some k_ ≠ (.slice (some ad512) t505.length co24 : Value).ownBlock)) (by (with_reducible repeat (first | apply Kd.R_alloc | apply Kd.R_drewN | apply Kd.R_drew)); exact HO_6.out) hg hat); have n2_ := Aside0.mk (hb); have n3_ := Aside0.mk (ho); clear HO_5; clear HO_6; clear HB; clear HO_7; have HO_5 := n0_; have HO_6 := n1_; have HB := n2_; have HO519 := n3_; clear n0_ n1_ n2_ n3_; clear ho hb hg hat))
          go_roundg kj6
          case measure => have := HK1.out; have := HJ6.out; omega
          case rel => exact ⟨(y517), ((IntKind.u64.wrap (x8_1 + (rd t505 x9_1))) / 4294967296), (wrap64 (x9_1 + 1)), (by first | rfl | (simp; done) | (simp [*]; done)), (by first | rfl | (simp; done) | (simp [*]; done)), H', ⟨by have := HK1.out; have := HJ6.out; omega⟩, ⟨by (with_reducible repeat (first | apply Kd.R_alloc | apply Kd.R_drewN | apply Kd.R_drew)); exact HO_5.out⟩, ⟨by (with_reducible repeat (first | apply Kd.R_alloc | apply Kd.R_drewN | apply Kd.R_drew)); exact HO_6.out⟩, ⟨by (with_reducible repeat (first | apply Kd.R_alloc | apply Kd.R_drewN | apply Kd.R_drew)); exact HO519.out⟩, ⟨by repeat (first | (with_reducible first | exact HB.out | apply below_alloc | apply pw_below_drewN | apply below_drew1) | exact HB.out)⟩⟩
         ·rw [if_neg c23] at H
          exact absurd H (by simp)
       ·rw [if_neg c17] at H
        exact absurd H (by simp)
      ·rw [if_neg c16] at H
       have c16b0 : decide (x9_1 < (t505.length : Int)) = false := decide_eq_false c16
       clear c16
       by_cases c27 : x9_1 < (t508.length : Int)
       ·rw [if_pos c27] at H
        have c27b0 : decide (x9_1 < (t508.length : Int)) = true := decide_eq_true c27
        clear c27
        by_cases c28 : 0 ≤ x9_1
        ·rw [if_pos c28] at H
         have c28b0 : decide (0 ≤ x9_1) = true := decide_eq_true c28
         clear c28
         by_cases c29 : x7_1.length < 17592186044416
         ·rw [if_pos c29] at H
          have LMc29 := Aside0.mk c29
          clear c29
          obtain ⟨y521, hy521⟩ : ∃ y_ : List Int, y_ = (x7_1 ++ [Go.bits .and .u64 (IntKind.u64.wrap (x8_1 + (rd t508 x9_1))) 4294967295]) := ⟨_, rfl⟩
          replace H : (galoisref01_Add.l0 kj6 t505 t508 y521 ((IntKind.u64.wrap (x8_1 + (rd t508 x9_1))) / 4294967296) (wrap64 (x9_1 + 1))) = some r := by first | (rw [hy521]; with_reducible exact H) | (have H2_ := (Option.bind_some _ _).symm.trans H; rw [hy521]; with_reducible exact H2_) | (have H2_ := (Option.bind_some _ _).symm.trans H; with_reducible exact H2_) | with_reducible exact H | (rw [hy521]; exact H) | exact H
          have Ny521 := Aside0.mk hy521
          clear hy521
          have H' := Aside0.mk H
          clear H
          obtain ⟨Ao30, co30, eo30⟩ := Kd.R_slice HO_5.out
          subst eo30
          obtain ⟨Ao31, co31, eo31⟩ := Kd.R_slice HO_6.out
          subst eo31
          have p520 : 0 ≤ (x9_1 : Int) := of_decide_eq_true (by first | (with_reducible assumption) | assumption)
          have q520 : x9_1 < (t508.length : Int) := of_decide_eq_true (by first | (with_reducible assumption) | assumption)
          obtain ⟨ad520, e520, hx520_0⟩ := Kd.at_int (Kd.R_reads' HO_6.out).2.2 x9_1 p520 q520
          cases e520
          replace p520 := eq_true p520
          replace q520 := eq_true q520
          go_wp2_with (first | ((with_reducible refine gate_builtin (b := .append) (xs := #[.tmp 52, .tmp 55]) rfl ?_); (try (refine gate_guard (by rfl) ?_; dsimp only)); at_builtin; refine Kd.R_append (Kd.int .u64) (w0 := w) w.heap.size rfl (.tmp 52) (.tmp 55) 68 49 (.int .u64 0) 8 rfl Try.underlying68 info49 rfl (by decide) (by omega) u7 x7_1 (Go.bits .and .u64 (IntKind.u64.wrap (x8_1 + (rd t508 x9_1))) 4294967295) [.int .u64 (Go.bits .and .u64 (IntKind.u64.wrap (x8_1 + (rd t508 x9_1))) 4294967295)] (fun k_ => some k_ ≠ (.slice Ao30 t505.length co30 : Value).ownBlock ∧ some k_ ≠ (.slice (some ad520) t508.length co31 : Value).ownBlock) (fun _ => False) rfl rfl ?aP (fun _ hk => hk.elim) ?aF ?aO ?aB ?aS ?aL ?_; (case aP => exact rfl); (case aB => exact (by repeat (first | (with_reducible first | exact HB.out | apply below_alloc | apply pw_below_drewN | apply below_drew1) | exact HB.out))); (case aF => exact (fun k_ hk => ⟨Kd.fresh' (Kd.R_lt (by (with_reducible repeat (first | apply Kd.R_alloc | apply Kd.R_drewN | apply Kd.R_drew)); exact HO_5.out)) k_ hk, Kd.fresh' (Kd.R_lt (by (with_reducible repeat (first | apply Kd.R_alloc | apply Kd.R_drewN | apply Kd.R_drew)); exact HO_6.out)) k_ hk⟩)); (case aO => exact (by (with_reducible repeat (first | apply Kd.R_alloc | apply Kd.R_drewN | apply Kd.R_drew)); exact HO_7.out)); (case aS => exact (below_size (by repeat (first | (with_reducible first | exact HB.out | apply below_alloc | apply pw_below_drewN | apply below_drew1) | exact HB.out)))); (case aL => have := LMc29.out; omega); intro v522 w32 ho hb hg hat; rw [← Ny521.out] at ho; have n0_ := Aside0.mk (Kd.R_after (ok := (fun k_ => some k_ ≠ (.slice (some ad520) t508.length co31 : Value).ownBlock)) (by (with_reducible repeat (first | apply Kd.R_alloc | apply Kd.R_drewN | apply Kd.R_drew)); exact HO_5.out) hg hat); have n1_ := Aside0.mk (Kd.R_after (ok := (fun k_ => some k_ ≠ (.slice Ao30 t505.length co30 : Value).ownBlock)) (by (with_reducible repeat (first | apply Kd.R_alloc | apply Kd.R_drewN | apply Kd.R_drew)); exact HO_6.out) hg hat); have n2_ := Aside0.mk (hb); have n3_ := Aside0.mk (ho); clear HO_5; clear HO_6; clear HB; clear HO_7; have HO_5 := n0_; have HO_6 := n1_; have HB := n2_; have HO523 := n3_; clear n0_ n1_ n2_ n3_; clear ho hb hg hat))
          go_roundg kj6
          case measure => have := HK1.out; have := HJ6.out; omega
          case rel => exact ⟨(y521), ((IntKind.u64.wrap (x8_1 + (rd t508 x9_1))) / 4294967296), (wrap64 (x9_1 + 1)), (by first | rfl | (simp; done) | (simp [*]; done)), (by first | rfl | (simp; done) | (simp [*]; done)), H', ⟨by have := HK1.out; have := HJ6.out; omega⟩, ⟨by (with_reducible repeat (first | apply Kd.R_alloc | apply Kd.R_drewN | apply Kd.R_drew)); exact HO_5.out⟩, ⟨by (with_reducible repeat (first | apply Kd.R_alloc | apply Kd.R_drewN | apply Kd.R_drew)); exact HO_6.out⟩, ⟨by (with_reducible repeat (first | apply Kd.R_alloc | apply Kd.R_drewN | apply Kd.R_drew)); exact HO523.out⟩, ⟨by repeat (first | (with_reducible first | exact HB.out | apply below_alloc | apply pw_below_drewN | apply below_drew1) | exact HB.out)⟩⟩
         ·rw [if_neg c29] at H
          exact absurd H (by simp)
        ·rw [if_neg c28] at H
         exact absurd H (by simp)
       ·rw [if_neg c27] at H
        have c27b0 : decide (x9_1 < (t508.length : Int)) = false := decide_eq_false c27
        clear c27
        by_cases c33 : x7_1.length < 17592186044416
        ·rw [if_pos c33] at H
         have LMc33 := Aside0.mk c33
         clear c33
         obtain ⟨y524, hy524⟩ : ∃ y_ : List Int, y_ = (x7_1 ++ [Go.bits .and .u64 x8_1 4294967295]) := ⟨_, rfl⟩
         replace H : (galoisref01_Add.l0 kj6 t505 t508 y524 (x8_1 / 4294967296) (wrap64 (x9_1 + 1))) = some r := by first | (rw [hy524]; with_reducible exact H) | (have H2_ := (Option.bind_some _ _).symm.trans H; rw [hy524]; with_reducible exact H2_) | (have H2_ := (Option.bind_some _ _).symm.trans H; with_reducible exact H2_) | with_reducible exact H | (rw [hy524]; exact H) | exact H
         have Ny524 := Aside0.mk hy524
         clear hy524
         have H' := Aside0.mk H
         clear H
         obtain ⟨Ao34, co34, eo34⟩ := Kd.R_slice HO_5.out
         subst eo34
         obtain ⟨Ao35, co35, eo35⟩ := Kd.R_slice HO_6.out
         subst eo35
         go_wp2_with (first | ((with_reducible refine gate_builtin (b := .append) (xs := #[.tmp 52, .tmp 55]) rfl ?_); (try (refine gate_guard (by rfl) ?_; dsimp only)); at_builtin; refine Kd.R_append (Kd.int .u64) (w0 := w) w.heap.size rfl (.tmp 52) (.tmp 55) 68 49 (.int .u64 0) 8 rfl Try.underlying68 info49 rfl (by decide) (by omega) u7 x7_1 (Go.bits .and .u64 x8_1 4294967295) [.int .u64 (Go.bits .and .u64 x8_1 4294967295)] (fun k_ => some k_ ≠ (.slice Ao34 t505.length co34 : Value).ownBlock ∧ some k_ ≠ (.slice Ao35 t508.length co35 : Value).ownBlock) (fun _ => False) rfl rfl ?aP (fun _ hk => hk.elim) ?aF ?aO ?aB ?aS ?aL ?_; (case aP => exact rfl); (case aB => exact (by repeat (first | (with_reducible first | exact HB.out | apply below_alloc | apply pw_below_drewN | apply below_drew1) | exact HB.out))); (case aF => exact (fun k_ hk => ⟨Kd.fresh' (Kd.R_lt (by (with_reducible repeat (first | apply Kd.R_alloc | apply Kd.R_drewN | apply Kd.R_drew)); exact HO_5.out)) k_ hk, Kd.fresh' (Kd.R_lt (by (with_reducible repeat (first | apply Kd.R_alloc | apply Kd.R_drewN | apply Kd.R_drew)); exact HO_6.out)) k_ hk⟩)); (case aO => exact (by (with_reducible repeat (first | apply Kd.R_alloc | apply Kd.R_drewN | apply Kd.R_drew)); exact HO_7.out)); (case aS => exact (below_size (by repeat (first | (with_reducible first | exact HB.out | apply below_alloc | apply pw_below_drewN | apply below_drew1) | exact HB.out)))); (case aL => have := LMc33.out; omega); intro v525 w36 ho hb hg hat; rw [← Ny524.out] at ho; have n0_ := Aside0.mk (Kd.R_after (ok := (fun k_ => some k_ ≠ (.slice Ao35 t508.length co35 : Value).ownBlock)) (by (with_reducible repeat (first | apply Kd.R_alloc | apply Kd.R_drewN | apply Kd.R_drew)); exact HO_5.out) hg hat); have n1_ := Aside0.mk (Kd.R_after (ok := (fun k_ => some k_ ≠ (.slice Ao34 t505.length co34 : Value).ownBlock)) (by (with_reducible repeat (first | apply Kd.R_alloc | apply Kd.R_drewN | apply Kd.R_drew)); exact HO_6.out) hg hat); have n2_ := Aside0.mk (hb); have n3_ := Aside0.mk (ho); clear HO_5; clear HO_6; clear HB; clear HO_7; have HO_5 := n0_; have HO_6 := n1_; have HB := n2_; have HO526 := n3_; clear n0_ n1_ n2_ n3_; clear ho hb hg hat))
         go_roundg kj6
         case measure => have := HK1.out; have := HJ6.out; omega
         case rel => exact ⟨(y524), (x8_1 / 4294967296), (wrap64 (x9_1 + 1)), (by first | rfl | (simp; done) | (simp [*]; done)), (by first | rfl | (simp; done) | (simp [*]; done)), H', ⟨by have := HK1.out; have := HJ6.out; omega⟩, ⟨by (with_reducible repeat (first | apply Kd.R_alloc | apply Kd.R_drewN | apply Kd.R_drew)); exact HO_5.out⟩, ⟨by (with_reducible repeat (first | apply Kd.R_alloc | apply Kd.R_drewN | apply Kd.R_drew)); exact HO_6.out⟩, ⟨by (with_reducible repeat (first | apply Kd.R_alloc | apply Kd.R_drewN | apply Kd.R_drew)); exact HO526.out⟩, ⟨by repeat (first | (with_reducible first | exact HB.out | apply below_alloc | apply pw_below_drewN | apply below_drew1) | exact HB.out)⟩⟩
        ·rw [if_neg c33] at H
         exact absurd H (by simp)
     ·replace c15 := Bool.eq_false_iff.mpr c15
      subst c15
      have H1 : ((galoisref01_pack.f kj6 x7_1).bind fun t511 => (some t511)) = some r := by rw [if_neg (show ¬ (false = true) by decide)] at H; exact H
      clear H
      have H := H1
      clear H1
      replace H := Option.bind_eq_some_iff.mp H
      obtain ⟨t511, A370, H⟩ := H
      replace H : (some t511) = some r := H
      have A37 := Aside0.mk A370
      clear A370
      obtain rfl := Option.some.inj H
      obtain ⟨Ao38, co38, eo38⟩ := Kd.R_slice HO_7.out
      subst eo38
      go_wp2_with (first | ((with_reducible refine gate_callee (f := 53) rfl ?_); refine goesL_ (some 60) rfl rfl Try.func53 (by kernel_rfl) rfl #[.slice Ao38 x7_1.length co38] rfl (by (try simp only [List.map_toArray, List.map_cons, List.map_nil]); first | done | rfl | (simp only [List.length_drop, List.length_take]; rfl)) ?_; (with_reducible refine (galoisref01_pack.calls kj6 _ _ x7_1 t511 _ ?side1 ?side2 A37.out).mono ?_); (case side1 => repeat (first | exact (Kd.R_reads' HO_7.out).2.2 | (with_reducible refine Kd.C_alloc ?_ _) | (with_reducible refine Kd.C_drewN ?_ _) | (with_reducible refine Kd.C_drew ?_))); (case side2 => exact (Kd.R_reads' HO_7.out).2.1); rintro e w39 ⟨rfl, hb⟩; refine ⟨_, rfl, ?_⟩; have n0_ := Aside0.mk (Kd.R_below (by (with_reducible repeat (first | apply Kd.R_alloc | apply Kd.R_drewN | apply Kd.R_drew)); exact HO_5.out) hb); have n1_ := Aside0.mk (Kd.R_below (by (with_reducible repeat (first | apply Kd.R_alloc | apply Kd.R_drewN | apply Kd.R_drew)); exact HO_6.out) hb); have n2_ := Aside0.mk (Kd.R_below (by (with_reducible repeat (first | apply Kd.R_alloc | apply Kd.R_drewN | apply Kd.R_drew)); exact HO_7.out) hb); have n3_ := Aside0.mk (below_step (by repeat (first | (with_reducible first | exact HB.out | apply below_alloc | apply pw_below_drewN | apply below_drew1) | exact HB.out)) hb); clear HO_5; clear HO_6; clear HO_7; clear HB; have HO_5 := n0_; have HO_6 := n1_; have HO_7 := n2_; have HB := n3_; clear n0_ n1_ n2_ n3_; (try clear hb); (try clear hb2); (try clear hk); (try clear hi)))
      go_ret
      exact ⟨by first | rfl | (simp [errW_none, errW_some] <;> rfl) | (simp [*, errW_none, errW_some] <;> rfl), by repeat (first | (with_reducible first | exact HB.out | apply below_alloc | apply pw_below_drewN | apply below_drew1) | exact HB.out)⟩
mutual
def galoisref01_Mul.l0 : Nat → List Int → List Int → List Int → Int → Option (ByteArray)
 | 0, _, _, _, _ => none
 | k + 1, x5, x6, x7, x8 => if x8 < (x5.length : Int) then (galoisref01_Mul.l1 k x5 x6 x7 x8 0 0) else ((galoisref01_pack.f k x7).bind fun t536 => (some t536))
def galoisref01_Mul.l1 : Nat → List Int → List Int → List Int → Int → Int → Int → Option (ByteArray)
 | 0, _, _, _, _, _, _ => none
 | k + 1, x5, x6, x7, x8, x9, x10 => if x10 < (x6.length : Int) then (if 0 ≤ (wrap64 (x8 + x10)) then (if (wrap64 (x8 + x10)) < (x7.length : Int) then (if 0 ≤ x8 then (if x8 < (x5.length : Int) then (if 0 ≤ x10 then (galoisref01_Mul.l1 k x5 x6 (x7.set ((wrap64 (x8 + x10)) : Int).toNat (Go.bits .and .u64 (IntKind.u64.wrap ((IntKind.u64.wrap ((rd x7 (wrap64 (x8 + x10))) + (IntKind.u64.wrap ((rd x5 x8) * (rd x6 x10))))) + x9)) 4294967295)) x8 ((IntKind.u64.wrap ((IntKind.u64.wrap ((rd x7 (wrap64 (x8 + x10))) + (IntKind.u64.wrap ((rd x5 x8) * (rd x6 x10))))) + x9)) / 4294967296) (wrap64 (x10 + 1))) else (none)) else (none)) else (none)) else (none)) else (none)) else (if 0 ≤ (wrap64 (x8 + (x6.length : Int))) then (if (wrap64 (x8 + (x6.length : Int))) < (x7.length : Int) then (galoisref01_Mul.l0 k x5 x6 (x7.set ((wrap64 (x8 + (x6.length : Int))) : Int).toNat x9) (wrap64 (x8 + 1))) else (none)) else (none))
end
def galoisref01_Mul.f (k : Nat) (a0 : ByteArray) (a1 : ByteArray) : Option (ByteArray) := (galoisref01_limbs.f k a0).bind fun t527 => ((galoisref01_limbs.f k a1).bind fun t530 => (if 0 ≤ (wrap64 ((t527.length : Int) + (t530.length : Int))) then (if (wrap64 ((t527.length : Int) + (t530.length : Int)) : Int).toNat ≤ 35184372088832 then (galoisref01_Mul.l0 k t527 t530 (List.replicate (wrap64 ((t527.length : Int) + (t530.length : Int)) : Int).toNat 0) 0) else (none)) else (none)))
theorem galoisref01_Mul.mono_l : ∀ k, (∀ y0 y1 y2 y3, LeO (galoisref01_Mul.l0 k y0 y1 y2 y3) (galoisref01_Mul.l0 (k + 1) y0 y1 y2 y3)) ∧ (∀ y0 y1 y2 y3 y4 y5, LeO (galoisref01_Mul.l1 k y0 y1 y2 y3 y4 y5) (galoisref01_Mul.l1 (k + 1) y0 y1 y2 y3 y4 y5))
 | 0 => ⟨fun _ _ _ _ r h => by simp [galoisref01_Mul.l0] at h, fun _ _ _ _ _ _ r h => by simp [galoisref01_Mul.l1] at h⟩
 | k + 1 => by
  obtain ⟨ih0, ih1⟩ := galoisref01_Mul.mono_l k
  refine ⟨?_, ?_⟩
  ·intro y0 y1 y2 y3
   unfold galoisref01_Mul.l0
   repeat' first
   | (with_reducible exact ih0 _ _ _ _)
   | (with_reducible exact ih1 _ _ _ _ _ _)
   | (with_reducible exact galoisref01_limbs.mono _ _)
   | (with_reducible exact galoisref01_pack.mono _ _)
   | (with_reducible exact LeO.refl _)
   | (with_reducible exact LeO.none _)
   | (with_reducible refine LeO.ite ?_ ?_)
   | (with_reducible refine LeO.bind ?_ (fun _ => ?_))
   | exact ih0 _ _ _ _
   | exact ih1 _ _ _ _ _ _
   | exact galoisref01_limbs.mono _ _
   | exact galoisref01_pack.mono _ _
   | exact LeO.none _
   | refine LeO.ite ?_ ?_
   | refine LeO.bind ?_ (fun _ => ?_)
  ·intro y0 y1 y2 y3 y4 y5
   unfold galoisref01_Mul.l1
   repeat' first
   | (with_reducible exact ih0 _ _ _ _)
   | (with_reducible exact ih1 _ _ _ _ _ _)
   | (with_reducible exact galoisref01_limbs.mono _ _)
   | (with_reducible exact galoisref01_pack.mono _ _)
   | (with_reducible exact LeO.refl _)
   | (with_reducible exact LeO.none _)
   | (with_reducible refine LeO.ite ?_ ?_)
   | (with_reducible refine LeO.bind ?_ (fun _ => ?_))
   | exact ih0 _ _ _ _
   | exact ih1 _ _ _ _ _ _
   | exact galoisref01_limbs.mono _ _
   | exact galoisref01_pack.mono _ _
   | exact LeO.none _
   | refine LeO.ite ?_ ?_
   | refine LeO.bind ?_ (fun _ => ?_)
theorem galoisref01_Mul.mono : ∀ a0 a1 k, LeO (galoisref01_Mul.f k a0 a1) (galoisref01_Mul.f (k + 1) a0 a1) := by
 intro a0 a1 k
 obtain ⟨ih0, ih1⟩ := galoisref01_Mul.mono_l k
 unfold galoisref01_Mul.f
 repeat' first
   | (with_reducible exact ih0 _ _ _ _)
   | (with_reducible exact ih1 _ _ _ _ _ _)
   | (with_reducible exact galoisref01_limbs.mono _ _)
   | (with_reducible exact galoisref01_pack.mono _ _)
   | (with_reducible exact LeO.refl _)
   | (with_reducible exact LeO.none _)
   | (with_reducible refine LeO.ite ?_ ?_)
   | (with_reducible refine LeO.bind ?_ (fun _ => ?_))
   | exact ih0 _ _ _ _
   | exact ih1 _ _ _ _ _ _
   | exact galoisref01_limbs.mono _ _
   | exact galoisref01_pack.mono _ _
   | exact LeO.none _
   | refine LeO.ite ?_ ?_
   | refine LeO.bind ?_ (fun _ => ?_)
def galoisref01_Mul.T10 : Bool × List (List Nat × List Nat) := (true, [([], []), ([], []), ([], []), ([1, 2], [1, 2]), ([0, 3], [0, 3]), ([4], [4]), ([], []), ([], []), ([6, 7], [6, 7]), ([8], [8]), ([], []), ([], []), ([10, 11], [10, 11]), ([12], [12]), ([9, 13], [9, 13]), ([5, 14], [5, 14]), ([], []), ([15, 16], [15, 16]), ([17, 0, 1, 2, 3, 4, 5, 6, 7, 8, 9, 10, 11, 12, 13, 14, 15, 16, 17], [17])])
def galoisref01_Mul.B10 : List Nat := [0, 0, 0, 6, 15, 31, 0, 0, 192, 448, 0, 0, 3072, 7168, 16320, 32767, 0, 131071, 262143]
theorem galoisref01_Mul.tab10 : rtab .any (opsOf Try.f42 10) = galoisref01_Mul.T10 := by kernel_rfl
theorem galoisref01_Mul.bits10 : waitsOk galoisref01_Mul.T10.2 galoisref01_Mul.B10 = true := by kernel_rfl
set_option maxHeartbeats 8000000 in
set_option maxRecDepth 100000 in
theorem galoisref01_Mul.calls (k : Nat) (a0 : ByteArray) (a1 : ByteArray) (r : ByteArray) (w : World) (h : galoisref01_Mul.f k a0 a1 = some r) :
  Calls Try.prog 42 #[.string a0, .string a1] w fun e w' => e = .returned (.string r) ∧ Below w.heap.size w w' := by
 have HB := Aside0.mk (Below.refl w.heap.size w)
 have H : ((galoisref01_limbs.f k a0).bind fun t527 => ((galoisref01_limbs.f k a1).bind fun t530 => (if 0 ≤ (wrap64 ((t527.length : Int) + (t530.length : Int))) then (if (wrap64 ((t527.length : Int) + (t530.length : Int)) : Int).toNat ≤ 35184372088832 then (galoisref01_Mul.l0 k t527 t530 (List.replicate (wrap64 ((t527.length : Int) + (t530.length : Int)) : Int).toNat 0) 0) else (none)) else (none)))) = some r := h
 clear h
 replace H := Option.bind_eq_some_iff.mp H
 obtain ⟨t527, A30, H⟩ := H
 replace H : ((galoisref01_limbs.f k a1).bind fun t530 => (if 0 ≤ (wrap64 ((t527.length : Int) + (t530.length : Int))) then (if (wrap64 ((t527.length : Int) + (t530.length : Int)) : Int).toNat ≤ 35184372088832 then (galoisref01_Mul.l0 k t527 t530 (List.replicate (wrap64 ((t527.length : Int) + (t530.length : Int)) : Int).toNat 0) 0) else (none)) else (none))) = some r := H
 have A3 := Aside0.mk A30
 clear A30
 replace H := Option.bind_eq_some_iff.mp H
 obtain ⟨t530, A40, H⟩ := H
 replace H : (if 0 ≤ (wrap64 ((t527.length : Int) + (t530.length : Int))) then (if (wrap64 ((t527.length : Int) + (t530.length : Int)) : Int).toNat ≤ 35184372088832 then (galoisref01_Mul.l0 k t527 t530 (List.replicate (wrap64 ((t527.length : Int) + (t530.length : Int)) : Int).toNat 0) 0) else (none)) else (none)) = some r := H
 have A4 := Aside0.mk A40
 clear A40
 obtain ⟨ji5, hji5⟩ : ∃ j_ : Int, (wrap64 ((t527.length : Int) + (t530.length : Int))) = j_ := ⟨_, rfl⟩
 replace H : (if 0 ≤ (ji5) then (if (ji5 : Int).toNat ≤ 35184372088832 then (galoisref01_Mul.l0 k t527 t530 (List.replicate (ji5 : Int).toNat 0) 0) else (none)) else (none)) = some r := by first | (rw [hji5] at H; exact H) | (simp only [hji5] at H ⊢; exact H)
 (try rw [hji5] at A3)
 (try rw [hji5] at A4)
 have hji5w : (IntKind.i64.wrap ((t527.length : Int) + (t530.length : Int))) = ji5 := (i64_w _).trans hji5
 by_cases c6 : 0 ≤ (ji5)
 ·rw [if_pos c6] at H
  have c6b0 := eq_true c6
  have c6b1 : decide (0 ≤ (ji5)) = true := decide_eq_true c6
  clear c6
  by_cases c7 : (ji5 : Int).toNat ≤ 35184372088832
  ·rw [if_pos c7] at H
   have c7b0 := eq_true c7
   have c7b1 : decide ((ji5 : Int).toNat ≤ 35184372088832) = true := decide_eq_true c7
   clear c7
   obtain ⟨y533, hy533⟩ : ∃ y_ : List Int, y_ = (List.replicate (ji5 : Int).toNat 0) := ⟨_, rfl⟩
   replace H : (galoisref01_Mul.l0 k t527 t530 y533 0) = some r := by first | (rw [hy533]; with_reducible exact H) | (have H2_ := (Option.bind_some _ _).symm.trans H; rw [hy533]; with_reducible exact H2_) | (have H2_ := (Option.bind_some _ _).symm.trans H; with_reducible exact H2_) | with_reducible exact H | (rw [hy533]; exact H) | exact H
   have Ny533 := Aside0.mk hy533
   clear hy533
   have H' := Aside0.mk H
   clear H
   go_enter Try.func42, Try.ntmps42
   go_wp2_with (first | ((with_reducible refine gate_callee (f := 51) rfl ?_); refine goesL_ (some 13) rfl rfl Try.func51 (by kernel_rfl) rfl #[.string a0] rfl (by (try simp only [List.map_toArray, List.map_cons, List.map_nil]); first | done | rfl | (simp only [List.length_drop, List.length_take]; rfl)) ?_; (with_reducible refine (galoisref01_limbs.calls k a0 t527 _ A3.out).mono ?_); rintro e w8 ⟨v528, rfl, ho0, hb⟩; refine ⟨_, rfl, ?_⟩; have n0_ := Aside0.mk (Kd.R_lower ho0 (below_size (by repeat (first | (with_reducible first | exact HB.out | apply below_alloc | apply pw_below_drewN | apply below_drew1) | exact HB.out)))); have n1_ := Aside0.mk (below_step (by repeat (first | (with_reducible first | exact HB.out | apply below_alloc | apply pw_below_drewN | apply below_drew1) | exact HB.out)) hb); clear HB; have HO529 := n0_; have HB := n1_; clear n0_ n1_; (try clear hb); (try clear hb2); (try clear hk); (try clear hi); (try clear ho0)) | ((with_reducible refine gate_callee (f := 51) rfl ?_); refine goesL_ (some 15) rfl rfl Try.func51 (by kernel_rfl) rfl #[.string a1] rfl (by (try simp only [List.map_toArray, List.map_cons, List.map_nil]); first | done | rfl | (simp only [List.length_drop, List.length_take]; rfl)) ?_; (with_reducible refine (galoisref01_limbs.calls k a1 t530 _ A4.out).mono ?_); rintro e w9 ⟨v531, rfl, ho0, hb⟩; refine ⟨_, rfl, ?_⟩; have n0_ := Aside0.mk (Kd.R_elder' (by (with_reducible repeat (first | apply Kd.R_alloc | apply Kd.R_drewN | apply Kd.R_drew)); exact HO529.out) (Kd.R_base ho0) hb); have n1_ := Aside0.mk (Kd.R_lower (Kd.R_new' ho0 (Kd.R_lt (by (with_reducible repeat (first | apply Kd.R_alloc | apply Kd.R_drewN | apply Kd.R_drew)); exact HO529.out))) (below_size (by repeat (first | (with_reducible first | exact HB.out | apply below_alloc | apply pw_below_drewN | apply below_drew1) | exact HB.out)))); have n2_ := Aside0.mk (below_step (by repeat (first | (with_reducible first | exact HB.out | apply below_alloc | apply pw_below_drewN | apply below_drew1) | exact HB.out)) hb); clear HO529; clear HB; have HO529 := n0_; have HO532 := n1_; have HB := n2_; clear n0_ n1_ n2_; (try clear hb); (try clear hb2); (try clear hk); (try clear hi); (try clear ho0); obtain ⟨Ao10, co10, eo10⟩ := Kd.R_slice HO529.out; subst eo10; obtain ⟨Ao11, co11, eo11⟩ := Kd.R_slice HO532.out; subst eo11) | ((with_reducible refine gate_dst (N := 21) rfl ?_); refine Kd.R_make (Kd.int .u64) _ 49 rfl (N := 21) rfl 68 _ _ rfl ji5 rfl rfl Try.underlying68 (.int .u64 0) 8 info49 rfl (by decide) (by omega) 0 (ok := fun _ => True) (okp := fun _ => True) rfl (fun _ hk => hk) trivial (of_decide_eq_true (by first | (with_reducible assumption) | assumption)) (Nat.le_trans (Nat.mul_le_mul_right _ (of_decide_eq_true (by first | (with_reducible assumption) | assumption) : ji5.toNat ≤ 35184372088832)) (by omega)) (Below.refl _ _) (Nat.le_refl _) ?_; intro v534 w12 ho13 hb hg_ hnew_; clear hg_ hnew_; (first | rw [← Ny533.out] at ho13 | (simp only [Int.reduceToNat] at ho13; rw [← Ny533.out] at ho13)); have n0_ := Aside0.mk (Kd.R_elder' (by (with_reducible repeat (first | apply Kd.R_alloc | apply Kd.R_drewN | apply Kd.R_drew)); exact HO529.out) (Kd.R_base ho13) hb); have n1_ := Aside0.mk (Kd.R_elder' (by (with_reducible repeat (first | apply Kd.R_alloc | apply Kd.R_drewN | apply Kd.R_drew)); exact HO532.out) (Kd.R_base ho13) hb); have n2_ := Aside0.mk (Kd.R_lower (Kd.R_new' (Kd.R_new' ho13 (Kd.R_lt (by (with_reducible repeat (first | apply Kd.R_alloc | apply Kd.R_drewN | apply Kd.R_drew)); exact HO529.out))) (Kd.R_lt (by (with_reducible repeat (first | apply Kd.R_alloc | apply Kd.R_drewN | apply Kd.R_drew)); exact HO532.out))) (below_size (by repeat (first | (with_reducible first | exact HB.out | apply below_alloc | apply pw_below_drewN | apply below_drew1) | exact HB.out)))); have n3_ := Aside0.mk (below_step (by repeat (first | (with_reducible first | exact HB.out | apply below_alloc | apply pw_below_drewN | apply below_drew1) | exact HB.out)) hb); clear HO529; clear HO532; clear HB; have HO529 := n0_; have HO532 := n1_; have HO535 := n2_; have HB := n3_; clear n0_ n1_ n2_ n3_; clear hb ho13))
   go_loopg [8] k (fun kq v8 w' => ∃ (x7_1 : List Int) (x8_1 : Int), v8 = .int .i64 x8_1 ∧ Aside0 (galoisref01_Mul.l0 kq t527 t530 x7_1 x8_1 = some r) ∧ Aside0 (kq ≤ k) ∧ Aside0 (Kd.R (Kd.int .u64) 49 w' w.heap.size (fun k_ => some k_ ≠ ((.slice Ao11 t530.length co11) : Value).ownBlock ∧ some k_ ≠ (v534 : Value).ownBlock) (.slice Ao10 t527.length co10) t527) ∧ Aside0 (Kd.R (Kd.int .u64) 49 w' w.heap.size (fun k_ => some k_ ≠ ((.slice Ao10 t527.length co10) : Value).ownBlock ∧ some k_ ≠ (v534 : Value).ownBlock) (.slice Ao11 t530.length co11) t530) ∧ Aside0 (Kd.R (Kd.int .u64) 49 w' w.heap.size (fun k_ => some k_ ≠ ((.slice Ao10 t527.length co10) : Value).ownBlock ∧ some k_ ≠ ((.slice Ao11 t530.length co11) : Value).ownBlock) v534 x7_1) ∧ Aside0 (Below w.heap.size w w'))
   case atStart => exact ⟨(y533), (0), (by first | rfl | (simp; done) | (simp [*]; done)), H', ⟨Nat.le_refl _⟩, ⟨by (with_reducible repeat (first | apply Kd.R_alloc | apply Kd.R_drewN | apply Kd.R_drew)); exact Kd.R_mono HO529.out (fun _ hk => ⟨hk.1.2, hk.2⟩)⟩, ⟨by (with_reducible repeat (first | apply Kd.R_alloc | apply Kd.R_drewN | apply Kd.R_drew)); exact Kd.R_mono HO532.out (fun _ hk => ⟨hk.1.2, hk.2⟩)⟩, ⟨by (with_reducible repeat (first | apply Kd.R_alloc | apply Kd.R_drewN | apply Kd.R_drew)); exact Kd.R_mono HO535.out (fun _ hk => ⟨hk.1.2, hk.2⟩)⟩, ⟨by repeat (first | (with_reducible first | exact HB.out | apply below_alloc | apply pw_below_drewN | apply below_drew1) | exact HB.out)⟩⟩
   case round =>
    clear H'
    try clear p2
    try clear c4
    try clear c5
    try clear c6
    try clear c6b0
    try clear c6b1
    try clear p6
    try clear c7
    try clear c7b0
    try clear c7b1
    obtain ⟨x7_1, x8_1, rfl, HA, HK1, HO_5, HO_6, HO_7, HB⟩ := hrel
    cases gk with
    | zero => exact absurd HA.out (by simp [galoisref01_Mul.l0])
    | succ k1 =>
     have H := HA.out
     clear HA
     simp only [galoisref01_Mul.l0] at H
     by_cases c14 : x8_1 < (t527.length : Int)
     ·rw [if_pos c14] at H
      have c14b0 : decide (x8_1 < (t527.length : Int)) = true := decide_eq_true c14
      clear c14
      have H' := Aside0.mk H
      clear H
      go_wp2
      go_loopg [9, 10] k1 (fun kq v9 v10 w' => ∃ (x7_2 : List Int) (x9_2 : Int) (x10_2 : Int), v9 = .int .u64 x9_2 ∧ v10 = .int .i64 x10_2 ∧ Aside0 (galoisref01_Mul.l1 kq t527 t530 x7_2 x8_1 x9_2 x10_2 = some r) ∧ Aside0 (kq ≤ k1) ∧ Aside0 (Kd.R (Kd.int .u64) 49 w' w.heap.size (fun k_ => some k_ ≠ ((.slice Ao11 t530.length co11) : Value).ownBlock ∧ some k_ ≠ (v534 : Value).ownBlock) (.slice Ao10 t527.length co10) t527) ∧ Aside0 (Kd.R (Kd.int .u64) 49 w' w.heap.size (fun k_ => some k_ ≠ ((.slice Ao10 t527.length co10) : Value).ownBlock ∧ some k_ ≠ (v534 : Value).ownBlock) (.slice Ao11 t530.length co11) t530) ∧ Aside0 (Kd.R (Kd.int .u64) 49 w' w.heap.size (fun k_ => some k_ ≠ ((.slice Ao10 t527.length co10) : Value).ownBlock ∧ some k_ ≠ ((.slice Ao11 t530.length co11) : Value).ownBlock) v534 x7_2) ∧ Aside0 (Below w.heap.size w w'))
      case atStart => exact ⟨(x7_1), (0), (0), (by first | rfl | (simp; done) | (simp [*]; done)), (by first | rfl | (simp; done) | (simp [*]; done)), H', ⟨Nat.le_refl _⟩, ⟨by (with_reducible repeat (first | apply Kd.R_alloc | apply Kd.R_drewN | apply Kd.R_drew)); exact HO_5.out⟩, ⟨by (with_reducible repeat (first | apply Kd.R_alloc | apply Kd.R_drewN | apply Kd.R_drew)); exact HO_6.out⟩, ⟨by (with_reducible repeat (first | apply Kd.R_alloc | apply Kd.R_drewN | apply Kd.R_drew)); exact HO_7.out⟩, ⟨by repeat (first | (with_reducible first | exact HB.out | apply below_alloc | apply pw_below_drewN | apply below_drew1) | exact HB.out)⟩⟩
      case round =>
       clear H'
       try clear c1
       try clear p2
       try clear c4
       try clear c5
       try clear c6
       try clear c6b0
       try clear c6b1
       try clear p6
       try clear c7
       try clear c7b0
       try clear c7b1
       try clear c14
       try clear c14b0
       try clear p2
       try clear p6
       obtain ⟨x7_2, x9_2, x10_2, rfl, rfl, HA, HK2, HO_5, HO_6, HO_7, HB⟩ := hrel
       cases gk with
       | zero => exact absurd HA.out (by simp [galoisref01_Mul.l1])
       | succ k2 =>
        have H := HA.out
        clear HA
        simp only [galoisref01_Mul.l1] at H
        by_cases c15 : x10_2 < (t530.length : Int)
        ·rw [if_pos c15] at H
         have c15b0 : decide (x10_2 < (t530.length : Int)) = true := decide_eq_true c15
         clear c15
         obtain ⟨ji16, hji16⟩ : ∃ j_ : Int, (wrap64 (x8_1 + x10_2)) = j_ := ⟨_, rfl⟩
         replace H : (if 0 ≤ (ji16) then (if (ji16) < (x7_2.length : Int) then (if 0 ≤ x8_1 then (if x8_1 < (t527.length : Int) then (if 0 ≤ x10_2 then (galoisref01_Mul.l1 k2 t527 t530 (x7_2.set ((ji16) : Int).toNat (Go.bits .and .u64 (IntKind.u64.wrap ((IntKind.u64.wrap ((rd x7_2 (ji16)) + (IntKind.u64.wrap ((rd t527 x8_1) * (rd t530 x10_2))))) + x9_2)) 4294967295)) x8_1 ((IntKind.u64.wrap ((IntKind.u64.wrap ((rd x7_2 (ji16)) + (IntKind.u64.wrap ((rd t527 x8_1) * (rd t530 x10_2))))) + x9_2)) / 4294967296) (wrap64 (x10_2 + 1))) else (none)) else (none)) else (none)) else (none)) else (none)) = some r := by first | (rw [hji16] at H; exact H) | (simp only [hji16] at H ⊢; exact H)
         have hji16w : (IntKind.i64.wrap (x8_1 + x10_2)) = ji16 := (i64_w _).trans hji16
         by_cases c17 : 0 ≤ (ji16)
         ·rw [if_pos c17] at H
          have c17b0 : decide (0 ≤ (ji16)) = true := decide_eq_true c17
          clear c17
          by_cases c18 : (ji16) < (x7_2.length : Int)
          ·rw [if_pos c18] at H
           have c18b0 : decide ((ji16) < (x7_2.length : Int)) = true := decide_eq_true c18
           clear c18
           by_cases c19 : 0 ≤ x8_1
           ·rw [if_pos c19] at H
            have c19b0 : decide (0 ≤ x8_1) = true := decide_eq_true c19
            clear c19
            by_cases c20 : x8_1 < (t527.length : Int)
            ·rw [if_pos c20] at H
             have c20b0 : decide (x8_1 < (t527.length : Int)) = true := decide_eq_true c20
             clear c20
             by_cases c21 : 0 ≤ x10_2
             ·rw [if_pos c21] at H
              have c21b0 : decide (0 ≤ x10_2) = true := decide_eq_true c21
              clear c21
              obtain ⟨y540, hy540⟩ : ∃ y_ : List Int, y_ = (x7_2.set ((ji16) : Int).toNat (Go.bits .and .u64 (IntKind.u64.wrap ((IntKind.u64.wrap ((rd x7_2 (ji16)) + (IntKind.u64.wrap ((rd t527 x8_1) * (rd t530 x10_2))))) + x9_2)) 4294967295)) := ⟨_, rfl⟩
              replace H : (galoisref01_Mul.l1 k2 t527 t530 y540 x8_1 ((IntKind.u64.wrap ((IntKind.u64.wrap ((rd x7_2 (ji16)) + (IntKind.u64.wrap ((rd t527 x8_1) * (rd t530 x10_2))))) + x9_2)) / 4294967296) (wrap64 (x10_2 + 1))) = some r := by first | (rw [hy540]; with_reducible exact H) | (have H2_ := (Option.bind_some _ _).symm.trans H; rw [hy540]; with_reducible exact H2_) | (have H2_ := (Option.bind_some _ _).symm.trans H; with_reducible exact H2_) | with_reducible exact H | (rw [hy540]; exact H) | exact H
              have Ny540 := Aside0.mk hy540
              clear hy540
              have H' := Aside0.mk H
              clear H
              try go_wp2
              have n0_ := Aside0.mk (Kd.R_drew HO_5.out)
              have n1_ := Aside0.mk (Kd.R_drew HO_6.out)
              have n2_ := Aside0.mk (Kd.R_drew HO_7.out)
              have n3_ := Aside0.mk (below_drew1 HB.out)
              clear HO_5
              clear HO_6
              clear HO_7
              clear HB
              have HO_5 := n0_
              have HO_6 := n1_
              have HO_7 := n2_
              have HB := n3_
              clear n0_ n1_ n2_ n3_
              obtain ⟨Ao24, co24, eo24⟩ := Kd.R_slice HO_7.out
              (first | subst eo24 | (injection eo24 with f1_ f2_ f3_; have f4_ := f1_.symm; have f5_ := f3_.symm; clear f1_ f2_ f3_; subst f4_; subst f5_))
              have p537 : 0 ≤ ((ji16) : Int) := of_decide_eq_true (by first | (with_reducible assumption) | assumption)
              have q537 : (ji16) < (x7_2.length : Int) := of_decide_eq_true (by first | (with_reducible assumption) | assumption)
              obtain ⟨ad537, e537, hx537_0⟩ := Kd.at_int (Kd.R_reads' HO_7.out).2.2 (ji16) p537 q537
              cases e537
              replace p537 := eq_true p537
              replace q537 := eq_true q537
              have p538 : 0 ≤ (x8_1 : Int) := of_decide_eq_true (by first | (with_reducible assumption) | assumption)
              have q538 : x8_1 < (t527.length : Int) := of_decide_eq_true (by first | (with_reducible assumption) | assumption)
              obtain ⟨ad538, e538, hx538_0⟩ := Kd.at_int (Kd.R_reads' HO_5.out).2.2 x8_1 p538 q538
              cases e538
              replace p538 := eq_true p538
              replace q538 := eq_true q538
              have p539 : 0 ≤ (x10_2 : Int) := of_decide_eq_true (by first | (with_reducible assumption) | assumption)
              have q539 : x10_2 < (t530.length : Int) := of_decide_eq_true (by first | (with_reducible assumption) | assumption)
              obtain ⟨ad539, e539, hx539_0⟩ := Kd.at_int (Kd.R_reads' HO_6.out).2.2 x10_2 p539 q539
              cases e539
              replace p539 := eq_true p539
              replace q539 := eq_true q539
              refine start_ (n := 19) (S := fun w' => w'.cell? (ad537.add ((ji16)).toNat) = some (.int .u64 (rd x7_2 (ji16))) ∧ w'.cell? (ad538.add (x8_1).toNat) = some (.int .u64 (rd t527 x8_1)) ∧ w'.cell? (ad539.add (x10_2).toNat) = some (.int .u64 (rd t530 x10_2))) (ds := []) #[false, false, false, false, false, false, false, false, false, false, false, false, false, false, false, false, false, false, false] (by kernel_rfl) rfl rfl ⟨hx537_0, hx538_0, hx539_0⟩ (fun hHeld => ?_); refine with_tabW galoisref01_Mul.tab10 galoisref01_Mul.bits10 (fun HT_ HW_ => ?_)
              generalize wr.drew = w23 at HO_5 HO_6 HO_7 HB hx537_0 hx538_0 hx539_0 hHeld ⊢
              refine pure_ (i := 0) (N := some 34) (v := ?_) (a' := ?_) #[true, false, false, false, false, false, false, false, false, false, false, false, false, false, false, false, false, false, false] rfl rfl (any_of HT_.out (by kernel_rfl)) (fun _ _ _ h => h) (Or.inl ⟨by rfl, ?_⟩) ?_ ?_
              rotate_left
              ·intro w'
               go_simp
               with_reducible rfl
              rotate_left
              ·simp only [Act.put, List.setIfInBounds_toArray, List.set_cons_zero, List.set_cons_succ, i64_w, i32_w]
               rfl
              refine pure_ (i := 1) (N := some 35) (v := ?_) (a' := ?_) #[true, true, false, false, false, false, false, false, false, false, false, false, false, false, false, false, false, false, false] rfl rfl (any_of HT_.out (by kernel_rfl)) (fun _ _ _ h => h) (Or.inl ⟨by rfl, ?_⟩) ?_ ?_
              rotate_left
              ·intro w'
               go_simp
               with_reducible rfl
              rotate_left
              ·simp only [Act.put, List.setIfInBounds_toArray, List.set_cons_zero, List.set_cons_succ, i64_w, i32_w]
               rfl
              refine pure_ (i := 2) (N := some 36) (v := ?_) (a' := ?_) #[true, true, true, false, false, false, false, false, false, false, false, false, false, false, false, false, false, false, false] rfl rfl (any_of HT_.out (by kernel_rfl)) (fun _ _ _ h => h) (Or.inl ⟨by rfl, ?_⟩) ?_ ?_
              rotate_left
              ·intro w'
               go_simp
               with_reducible rfl
              rotate_left
              ·simp only [Act.put, List.setIfInBounds_toArray, List.set_cons_zero, List.set_cons_succ, i64_w, i32_w]
               rfl
              refine pure_ (i := 3) (N := some 37) (v := ?_) (a' := ?_) #[true, true, true, true, false, false, false, false, false, false, false, false, false, false, false, false, false, false, false] rfl rfl (any_of HT_.out (by kernel_rfl)) (fun _ _ _ h => h) (Or.inl ⟨by rfl, ?_⟩) ?_ ?_
              rotate_left
              ·intro w'
               go_simp
               with_reducible rfl
              rotate_left
              ·simp only [Act.put, List.setIfInBounds_toArray, List.set_cons_zero, List.set_cons_succ, i64_w, i32_w]
               rfl
              refine pure_ (i := 4) (N := some 38) (v := ?_) (a' := ?_) #[true, true, true, true, true, false, false, false, false, false, false, false, false, false, false, false, false, false, false] rfl rfl (any_of HT_.out (by kernel_rfl)) (fun _ _ _ h => h) (Or.inl ⟨by rfl, ?_⟩) ?_ ?_
              rotate_left
              ·intro w'
               go_simp
               with_reducible rfl
              rotate_left
              ·simp only [Act.put, List.setIfInBounds_toArray, List.set_cons_zero, List.set_cons_succ, i64_w, i32_w]
               rfl
              refine pure_ (i := 6) (N := some 40) (v := ?_) (a' := ?_) #[true, true, true, true, true, false, true, false, false, false, false, false, false, false, false, false, false, false, false] rfl rfl (any_of HT_.out (by kernel_rfl)) (fun _ _ _ h => h) (Or.inl ⟨by rfl, ?_⟩) ?_ ?_
              rotate_left
              ·intro w'
               go_simp
               with_reducible rfl
              rotate_left
              ·simp only [Act.put, List.setIfInBounds_toArray, List.set_cons_zero, List.set_cons_succ, i64_w, i32_w]
               rfl
              refine pure_ (i := 7) (N := some 41) (v := ?_) (a' := ?_) #[true, true, true, true, true, false, true, true, false, false, false, false, false, false, false, false, false, false, false] rfl rfl (any_of HT_.out (by kernel_rfl)) (fun _ _ _ h => h) (Or.inl ⟨by rfl, ?_⟩) ?_ ?_
              rotate_left
              ·intro w'
               go_simp
               with_reducible rfl
              rotate_left
              ·simp only [Act.put, List.setIfInBounds_toArray, List.set_cons_zero, List.set_cons_succ, i64_w, i32_w]
               rfl
              refine pure_ (i := 8) (N := some 42) (v := ?_) (a' := ?_) #[true, true, true, true, true, false, true, true, true, false, false, false, false, false, false, false, false, false, false] rfl rfl (any_of HT_.out (by kernel_rfl)) (fun _ _ _ h => h) (Or.inl ⟨by rfl, ?_⟩) ?_ ?_
              rotate_left
              ·intro w'
               go_simp
               with_reducible rfl
              rotate_left
              ·simp only [Act.put, List.setIfInBounds_toArray, List.set_cons_zero, List.set_cons_succ, i64_w, i32_w]
               rfl
              refine pure_ (i := 10) (N := some 44) (v := ?_) (a' := ?_) #[true, true, true, true, true, false, true, true, true, false, true, false, false, false, false, false, false, false, false] rfl rfl (any_of HT_.out (by kernel_rfl)) (fun _ _ _ h => h) (Or.inl ⟨by rfl, ?_⟩) ?_ ?_
              rotate_left
              ·intro w'
               go_simp
               with_reducible rfl
              rotate_left
              ·simp only [Act.put, List.setIfInBounds_toArray, List.set_cons_zero, List.set_cons_succ, i64_w, i32_w]
               rfl
              refine pure_ (i := 11) (N := some 45) (v := ?_) (a' := ?_) #[true, true, true, true, true, false, true, true, true, false, true, true, false, false, false, false, false, false, false] rfl rfl (any_of HT_.out (by kernel_rfl)) (fun _ _ _ h => h) (Or.inl ⟨by rfl, ?_⟩) ?_ ?_
              rotate_left
              ·intro w'
               go_simp
               with_reducible rfl
              rotate_left
              ·simp only [Act.put, List.setIfInBounds_toArray, List.set_cons_zero, List.set_cons_succ, i64_w, i32_w]
               rfl
              refine pure_ (i := 12) (N := some 46) (v := ?_) (a' := ?_) #[true, true, true, true, true, false, true, true, true, false, true, true, true, false, false, false, false, false, false] rfl rfl (any_of HT_.out (by kernel_rfl)) (fun _ _ _ h => h) (Or.inl ⟨by rfl, ?_⟩) ?_ ?_
              rotate_left
              ·intro w'
               go_simp
               with_reducible rfl
              rotate_left
              ·simp only [Act.put, List.setIfInBounds_toArray, List.set_cons_zero, List.set_cons_succ, i64_w, i32_w]
               rfl
              refine pure_ (i := 16) (N := some 50) (v := ?_) (a' := ?_) #[true, true, true, true, true, false, true, true, true, false, true, true, true, false, false, false, true, false, false] rfl rfl (any_of HT_.out (by kernel_rfl)) (fun _ _ _ h => h) (Or.inl ⟨by rfl, ?_⟩) ?_ ?_
              rotate_left
              ·intro w'
               go_simp
               with_reducible rfl
              rotate_left
              ·simp only [Act.put, List.setIfInBounds_toArray, List.set_cons_zero, List.set_cons_succ, i64_w, i32_w]
               rfl
              refine take_ (i := 5) (N := some 39) (v := ?_) (a' := ?_) #[true, true, true, true, true, true, true, true, true, false, true, true, true, false, false, false, true, false, false] rfl rfl (take_ofW HT_.out HW_.out (by kernel_rfl)) (fun _ _ _ h => h) (Or.inl ⟨by rfl, ?_⟩) hHeld ?_ ?_
              rotate_left
              ·rintro w' ⟨s0, s1, s2⟩
               (try simp only [Int.toNat_natCast] at s0 s1 s2)
               go_simp
               with_reducible rfl
              rotate_left
              ·simp only [Act.put, List.setIfInBounds_toArray, List.set_cons_zero, List.set_cons_succ, i64_w, i32_w]
               rfl
              refine take_ (i := 9) (N := some 43) (v := ?_) (a' := ?_) #[true, true, true, true, true, true, true, true, true, true, true, true, true, false, false, false, true, false, false] rfl rfl (take_ofW HT_.out HW_.out (by kernel_rfl)) (fun _ _ _ h => h) (Or.inl ⟨by rfl, ?_⟩) hHeld ?_ ?_
              rotate_left
              ·rintro w' ⟨s0, s1, s2⟩
               (try simp only [Int.toNat_natCast] at s0 s1 s2)
               go_simp
               with_reducible rfl
              rotate_left
              ·simp only [Act.put, List.setIfInBounds_toArray, List.set_cons_zero, List.set_cons_succ, i64_w, i32_w]
               rfl
              refine take_ (i := 13) (N := some 47) (v := ?_) (a' := ?_) #[true, true, true, true, true, true, true, true, true, true, true, true, true, true, false, false, true, false, false] rfl rfl (take_ofW HT_.out HW_.out (by kernel_rfl)) (fun _ _ _ h => h) (Or.inl ⟨by rfl, ?_⟩) hHeld ?_ ?_
              rotate_left
              ·rintro w' ⟨s0, s1, s2⟩
               (try simp only [Int.toNat_natCast] at s0 s1 s2)
               go_simp
               with_reducible rfl
              rotate_left
              ·simp only [Act.put, List.setIfInBounds_toArray, List.set_cons_zero, List.set_cons_succ, i64_w, i32_w]
               rfl
              refine pure_ (i := 14) (N := some 48) (v := ?_) (a' := ?_) #[true, true, true, true, true, true, true, true, true, true, true, true, true, true, true, false, true, false, false] rfl rfl (any_of HT_.out (by kernel_rfl)) (fun _ _ _ h => h) (Or.inl ⟨by rfl, ?_⟩) ?_ ?_
              rotate_left
              ·intro w'
               go_simp
               with_reducible rfl
              rotate_left
              ·simp only [Act.put, List.setIfInBounds_toArray, List.set_cons_zero, List.set_cons_succ, i64_w, i32_w]
               rfl
              refine pure_ (i := 15) (N := some 49) (v := ?_) (a' := ?_) #[true, true, true, true, true, true, true, true, true, true, true, true, true, true, true, true, true, false, false] rfl rfl (any_of HT_.out (by kernel_rfl)) (fun _ _ _ h => h) (Or.inl ⟨by rfl, ?_⟩) ?_ ?_
              rotate_left
              ·intro w'
               go_simp
               with_reducible rfl
              rotate_left
              ·simp only [Act.put, List.setIfInBounds_toArray, List.set_cons_zero, List.set_cons_succ, i64_w, i32_w]
               rfl
              refine pure_ (i := 17) (N := some 51) (v := ?_) (a' := ?_) #[true, true, true, true, true, true, true, true, true, true, true, true, true, true, true, true, true, true, false] rfl rfl (any_of HT_.out (by kernel_rfl)) (fun _ _ _ h => h) (Or.inl ⟨by rfl, ?_⟩) ?_ ?_
              rotate_left
              ·intro w'
               go_simp
               with_reducible rfl
              rotate_left
              ·simp only [Act.put, List.setIfInBounds_toArray, List.set_cons_zero, List.set_cons_succ, i64_w, i32_w]
               rfl
              refine pure_ (i := 18) (N := some 11) (v := ?_) (a' := ?_) #[true, true, true, true, true, true, true, true, true, true, true, true, true, true, true, true, true, true, true] rfl rfl (any_of HT_.out (by kernel_rfl)) (fun _ _ _ h => h) (Or.inl ⟨by rfl, ?_⟩) ?_ ?_
              rotate_left
              ·intro w'
               go_simp
               with_reducible rfl
              rotate_left
              ·simp only [Act.put, List.setIfInBounds_toArray, List.set_cons_zero, List.set_cons_succ, i64_w, i32_w]
               rfl
              refine done_ (done_of HT_.out (by kernel_rfl)) ?_
              have p22 : 0 ≤ ((ji16) : Int) := of_decide_eq_true (by first | (with_reducible assumption) | assumption)
              have q22 : ((ji16) : Int) < ((x7_2.length : Int) : Int) := of_decide_eq_true (by first | (with_reducible assumption) | assumption)
              obtain ⟨go22, co22, eo22, gb22, gl22, cl22, HG22⟩ := Kd.R_form HO_7.out (by omega)
              (first | cases eo22 | (injection eo22 with ea_ en_ ec_; (first | subst ea_ | (injection ea_ with ea_; subst ea_)); subst ec_; clear en_))
              have GB22 := Aside0.mk gb22
              have GG22 := Aside0.mk HG22
              clear gb22 gl22 HG22
              (first | simp only [add_plain] at hx537_0 | skip)
              obtain ⟨hx22_0, hf22_0⟩ := Kd.R_celln 0 HO_7.out ((ji16) : Int) p22 q22; (try simp only [Int.toNat_natCast] at hx22_0 hf22_0)
              replace p22 := eq_true p22
              replace q22 := eq_true q22
              obtain ⟨hy25_, hz25_⟩ := Kd.R_celln 0 HO_7.out ((ji16) : Int) (of_decide_eq_true (by first | (with_reducible assumption) | assumption)) (of_decide_eq_true (by first | (with_reducible assumption) | assumption)); (try simp only [Int.toNat_natCast] at hy25_ hz25_)
              have HP25 := Kd.R_putg HO_7.out ((ji16) : Int) (Go.bits .and .u64 (IntKind.u64.wrap ((IntKind.u64.wrap ((rd x7_2 (ji16)) + (IntKind.u64.wrap ((rd t527 x8_1) * (rd t530 x10_2))))) + x9_2)) 4294967295)
              try go_wp2_with (first | ((with_reducible refine gate_store (t := 49) (p := 58) rfl ?_); refine store_event (t := 49) (p := 58) (v := ?vo_w26) (w1 := (w23.setCell ⟨go22, ((ji16) : Int).toNat, none⟩ (.int .u64 (Go.bits .and .u64 (IntKind.u64.wrap ((IntKind.u64.wrap ((rd x7_2 (ji16)) + (IntKind.u64.wrap ((rd t527 x8_1) * (rd t530 x10_2))))) + x9_2)) 4294967295)))) ?hg ?ho ?hn ?hr ?_; (case ho => rfl); (case hg => rfl); (case hn => rfl); (case hr => first | (go_simp; done) | (go_simp; rfl)); intro w26 hw; have hg : w23.grownBy w26 (some go22) := (by rw [hw]; exact HP25.2); have hp_ : Kd.R (Kd.int .u64) 49 w26 w.heap.size (fun k_ => some k_ ≠ (.slice (some ad538) t527.length co10 : Value).ownBlock ∧ some k_ ≠ (.slice (some ad539) t530.length co11 : Value).ownBlock) (.slice (some ⟨go22, 0, none⟩) x7_2.length co24) y540 := (by rw [hw, Ny540.out]; exact HP25.1); clear HP25; have n0_ := Aside0.mk (Kd.R_after (v := (.slice (some ⟨go22, 0, none⟩) x7_2.length co24)) (v1 := (.slice (some ⟨go22, 0, none⟩) x7_2.length co24)) (ok := (fun k_ => some k_ ≠ (.slice (some ad539) t530.length co11 : Value).ownBlock)) (by (with_reducible repeat (first | apply Kd.R_alloc | apply Kd.R_drewN | apply Kd.R_drew)); exact HO_5.out) hg (.inl rfl)); have n1_ := Aside0.mk (Kd.R_after (v := (.slice (some ⟨go22, 0, none⟩) x7_2.length co24)) (v1 := (.slice (some ⟨go22, 0, none⟩) x7_2.length co24)) (ok := (fun k_ => some k_ ≠ (.slice (some ad538) t527.length co10 : Value).ownBlock)) (by (with_reducible repeat (first | apply Kd.R_alloc | apply Kd.R_drewN | apply Kd.R_drew)); exact HO_6.out) hg (.inl rfl)); have n2_ := Aside0.mk (hp_); have n3_ := Aside0.mk ((by rw [hw]; exact below_set (HB.out) GB22.out : Below w.heap.size w w26)); clear HO_5; clear HO_6; clear HO_7; clear HB; have HO_5 := n0_; have HO_6 := n1_; have HO_7 := n2_; have HB := n3_; clear n0_ n1_ n2_ n3_; clear hg hw hp_))
              go_roundg k2
              case measure => have := HK1.out; have := HK2.out; omega
              case rel => exact ⟨(y540), ((IntKind.u64.wrap ((IntKind.u64.wrap ((rd x7_2 (ji16)) + (IntKind.u64.wrap ((rd t527 x8_1) * (rd t530 x10_2))))) + x9_2)) / 4294967296), (wrap64 (x10_2 + 1)), (by first | rfl | (simp; done) | (simp only [← hji16] <;> (first | rfl | simp)) | (simp [*]; done)), (by first | rfl | (simp; done) | (simp [*]; done)), H', ⟨by have := HK1.out; have := HK2.out; omega⟩, ⟨by (with_reducible repeat (first | apply Kd.R_alloc | apply Kd.R_drewN | apply Kd.R_drew)); exact HO_5.out⟩, ⟨by (with_reducible repeat (first | apply Kd.R_alloc | apply Kd.R_drewN | apply Kd.R_drew)); exact HO_6.out⟩, ⟨by (with_reducible repeat (first | apply Kd.R_alloc | apply Kd.R_drewN | apply Kd.R_drew)); exact HO_7.out⟩, ⟨by repeat (first | (with_reducible first | exact HB.out | apply below_alloc | apply pw_below_drewN | apply below_drew1) | exact HB.out)⟩⟩
             ·rw [if_neg c21] at H
              exact absurd H (by simp)
            ·rw [if_neg c20] at H
             exact absurd H (by simp)
           ·rw [if_neg c19] at H
            exact absurd H (by simp)
          ·rw [if_neg c18] at H
           exact absurd H (by simp)
         ·rw [if_neg c17] at H
          exact absurd H (by simp)
        ·rw [if_neg c15] at H
         have c15b0 : decide (x10_2 < (t530.length : Int)) = false := decide_eq_false c15
         clear c15
         obtain ⟨ji27, hji27⟩ : ∃ j_ : Int, (wrap64 (x8_1 + (t530.length : Int))) = j_ := ⟨_, rfl⟩
         replace H : (if 0 ≤ (ji27) then (if (ji27) < (x7_2.length : Int) then (galoisref01_Mul.l0 k2 t527 t530 (x7_2.set ((ji27) : Int).toNat x9_2) (wrap64 (x8_1 + 1))) else (none)) else (none)) = some r := by first | (rw [hji27] at H; exact H) | (simp only [hji27] at H ⊢; exact H)
         have hji27w : (IntKind.i64.wrap (x8_1 + (t530.length : Int))) = ji27 := (i64_w _).trans hji27
         by_cases c28 : 0 ≤ (ji27)
         ·rw [if_pos c28] at H
          have c28b0 : decide (0 ≤ (ji27)) = true := decide_eq_true c28
          clear c28
          by_cases c29 : (ji27) < (x7_2.length : Int)
          ·rw [if_pos c29] at H
           have c29b0 : decide ((ji27) < (x7_2.length : Int)) = true := decide_eq_true c29
           clear c29
           obtain ⟨y541, hy541⟩ : ∃ y_ : List Int, y_ = (x7_2.set ((ji27) : Int).toNat x9_2) := ⟨_, rfl⟩
           replace H : (galoisref01_Mul.l0 k2 t527 t530 y541 (wrap64 (x8_1 + 1))) = some r := by first | (rw [hy541]; with_reducible exact H) | (have H2_ := (Option.bind_some _ _).symm.trans H; rw [hy541]; with_reducible exact H2_) | (have H2_ := (Option.bind_some _ _).symm.trans H; with_reducible exact H2_) | with_reducible exact H | (rw [hy541]; exact H) | exact H
           have Ny541 := Aside0.mk hy541
           clear hy541
           have H' := Aside0.mk H
           clear H
           have p30 : 0 ≤ ((ji27) : Int) := of_decide_eq_true (by first | (with_reducible assumption) | assumption)
           have q30 : ((ji27) : Int) < ((x7_2.length : Int) : Int) := of_decide_eq_true (by first | (with_reducible assumption) | assumption)
           obtain ⟨go30, co30, eo30, gb30, gl30, cl30, HG30⟩ := Kd.R_form HO_7.out (by omega)
           (first | cases eo30 | (injection eo30 with ea_ en_ ec_; (first | subst ea_ | (injection ea_ with ea_; subst ea_)); subst ec_; clear en_))
           have GB30 := Aside0.mk gb30
           have GG30 := Aside0.mk HG30
           clear gb30 gl30 HG30
           obtain ⟨hx30_0, hf30_0⟩ := Kd.R_celln 0 HO_7.out ((ji27) : Int) p30 q30; (try simp only [Int.toNat_natCast] at hx30_0 hf30_0)
           replace p30 := eq_true p30
           replace q30 := eq_true q30
           have HP31 := Kd.R_putg HO_7.out ((ji27) : Int) x9_2
           go_wp2_with (first | ((with_reducible refine gate_store (t := 49) (p := 67) rfl ?_); refine store_event (t := 49) (p := 67) (v := ?vo_w32) (w1 := (wr.setCell ⟨go30, ((ji27) : Int).toNat, none⟩ (.int .u64 x9_2))) ?hg ?ho ?hn ?hr ?_; (case ho => rfl); (case hg => rfl); (case hn => rfl); (case hr => first | (go_simp; done) | (go_simp; rfl)); intro w32 hw; have hg : wr.grownBy w32 (some go30) := (by rw [hw]; exact HP31.2); have hp_ : Kd.R (Kd.int .u64) 49 w32 w.heap.size (fun k_ => some k_ ≠ (.slice Ao10 t527.length co10 : Value).ownBlock ∧ some k_ ≠ (.slice Ao11 t530.length co11 : Value).ownBlock) (.slice (some ⟨go30, 0, none⟩) x7_2.length co30) y541 := (by rw [hw, Ny541.out]; exact HP31.1); clear HP31; have n0_ := Aside0.mk (Kd.R_after (v := (.slice (some ⟨go30, 0, none⟩) x7_2.length co30)) (v1 := (.slice (some ⟨go30, 0, none⟩) x7_2.length co30)) (ok := (fun k_ => some k_ ≠ (.slice Ao11 t530.length co11 : Value).ownBlock)) (by (with_reducible repeat (first | apply Kd.R_alloc | apply Kd.R_drewN | apply Kd.R_drew)); exact HO_5.out) hg (.inl rfl)); have n1_ := Aside0.mk (Kd.R_after (v := (.slice (some ⟨go30, 0, none⟩) x7_2.length co30)) (v1 := (.slice (some ⟨go30, 0, none⟩) x7_2.length co30)) (ok := (fun k_ => some k_ ≠ (.slice Ao10 t527.length co10 : Value).ownBlock)) (by (with_reducible repeat (first | apply Kd.R_alloc | apply Kd.R_drewN | apply Kd.R_drew)); exact HO_6.out) hg (.inl rfl)); have n2_ := Aside0.mk (hp_); have n3_ := Aside0.mk ((by rw [hw]; exact below_set (HB.out) GB30.out : Below w.heap.size w w32)); clear HO_5; clear HO_6; clear HO_7; clear HB; have HO_5 := n0_; have HO_6 := n1_; have HO_7 := n2_; have HB := n3_; clear n0_ n1_ n2_ n3_; clear hg hw hp_))
           go_roundg k2
           case measure => have := HK1.out; have := HK2.out; omega
           case rel => exact ⟨(y541), (wrap64 (x8_1 + 1)), (by first | rfl | (simp; done) | (simp [*]; done)), H', ⟨by have := HK1.out; have := HK2.out; omega⟩, ⟨by (with_reducible repeat (first | apply Kd.R_alloc | apply Kd.R_drewN | apply Kd.R_drew)); exact HO_5.out⟩, ⟨by (with_reducible repeat (first | apply Kd.R_alloc | apply Kd.R_drewN | apply Kd.R_drew)); exact HO_6.out⟩, ⟨by (with_reducible repeat (first | apply Kd.R_alloc | apply Kd.R_drewN | apply Kd.R_drew)); exact HO_7.out⟩, ⟨by repeat (first | (with_reducible first | exact HB.out | apply below_alloc | apply pw_below_drewN | apply below_drew1) | exact HB.out)⟩⟩
          ·rw [if_neg c29] at H
           exact absurd H (by simp)
         ·rw [if_neg c28] at H
          exact absurd H (by simp)
     ·rw [if_neg c14] at H
      have c14b0 : decide (x8_1 < (t527.length : Int)) = false := decide_eq_false c14
      clear c14
      replace H := Option.bind_eq_some_iff.mp H
      obtain ⟨t536, A330, H⟩ := H
      replace H : (some t536) = some r := H
      have A33 := Aside0.mk A330
      clear A330
      obtain rfl := Option.some.inj H
      obtain ⟨Ao34, co34, eo34⟩ := Kd.R_slice HO_7.out
      subst eo34
      go_wp2_with (first | ((with_reducible refine gate_callee (f := 53) rfl ?_); refine goesL_ (some 69) rfl rfl Try.func53 (by kernel_rfl) rfl #[.slice Ao34 x7_1.length co34] rfl (by (try simp only [List.map_toArray, List.map_cons, List.map_nil]); first | done | rfl | (simp only [List.length_drop, List.length_take]; rfl)) ?_; (with_reducible refine (galoisref01_pack.calls k1 _ _ x7_1 t536 _ ?side1 ?side2 A33.out).mono ?_); (case side1 => repeat (first | exact (Kd.R_reads' HO_7.out).2.2 | (with_reducible refine Kd.C_alloc ?_ _) | (with_reducible refine Kd.C_drewN ?_ _) | (with_reducible refine Kd.C_drew ?_))); (case side2 => exact (Kd.R_reads' HO_7.out).2.1); rintro e w35 ⟨rfl, hb⟩; refine ⟨_, rfl, ?_⟩; have n0_ := Aside0.mk (Kd.R_below (by (with_reducible repeat (first | apply Kd.R_alloc | apply Kd.R_drewN | apply Kd.R_drew)); exact HO_5.out) hb); have n1_ := Aside0.mk (Kd.R_below (by (with_reducible repeat (first | apply Kd.R_alloc | apply Kd.R_drewN | apply Kd.R_drew)); exact HO_6.out) hb); have n2_ := Aside0.mk (Kd.R_below (by (with_reducible repeat (first | apply Kd.R_alloc | apply Kd.R_drewN | apply Kd.R_drew)); exact HO_7.out) hb); have n3_ := Aside0.mk (below_step (by repeat (first | (with_reducible first | exact HB.out | apply below_alloc | apply pw_below_drewN | apply below_drew1) | exact HB.out)) hb); clear HO_5; clear HO_6; clear HO_7; clear HB; have HO_5 := n0_; have HO_6 := n1_; have HO_7 := n2_; have HB := n3_; clear n0_ n1_ n2_ n3_; (try clear hb); (try clear hb2); (try clear hk); (try clear hi)))
      go_ret
      exact ⟨by first | rfl | (simp [errW_none, errW_some] <;> rfl) | (simp only [← hji5]; first | rfl | (simp [errW_none, errW_some] <;> rfl)) | (simp [*, errW_none, errW_some] <;> rfl), by repeat (first | (with_reducible first | exact HB.out | apply below_alloc | apply pw_below_drewN | apply below_drew1) | exact HB.out)⟩
  ·rw [if_neg c7] at H
   exact absurd H (by simp)
 ·rw [if_neg c6] at H
  exact absurd H (by simp)
end Go.Proofs.Ytohkmnbnjacfaaa.All
namespace Go.Proofs.Ytohkmnbnjacfaaa.All
open Go.Proofs.YtohkmnbnjacfaaaX
open Go.RowKit Go.Proofs.YtohkmnbnjacfaaaW.PrintWords Go.Proofs.YtohkmnbnjacfaaaW.PrintLast Go.Proofs.YtohkmnbnjacfaaaW.PrintMore
attribute [local go_sem] max2_int min2_int max_two min_two max_three min_three max_four min_four
set_option linter.unusedVariables false
set_option linter.unusedSimpArgs false
end Go.Proofs.Ytohkmnbnjacfaaa.All
namespace Go.Proofs.Ytohkmnbnjacfaaa.All
open Go.Proofs.YtohkmnbnjacfaaaX
open Go.RowKit Go.Proofs.YtohkmnbnjacfaaaW.PrintWords Go.Proofs.YtohkmnbnjacfaaaW.PrintLast Go.Proofs.YtohkmnbnjacfaaaW.PrintMore
attribute [local go_sem] max2_int min2_int max_two min_two max_three min_three max_four min_four
set_option linter.unusedVariables false
set_option linter.unusedSimpArgs false
def exact_NatMul.f (k : Nat) (a0 : ByteArray) (a1 : ByteArray) : Option (ByteArray) := (exact_words.f k a0).bind fun t595 => ((exact_words.f k a1).bind fun t598 => ((exact_mulWords.f k t595 t598).bind fun t601 => ((exact_pack.f k t601).bind fun t604 => (some t604))))
theorem exact_NatMul.mono : ∀ a0 a1 k, LeO (exact_NatMul.f k a0 a1) (exact_NatMul.f (k + 1) a0 a1) := by
 intro a0 a1 k
 unfold exact_NatMul.f
 repeat' first
   | (with_reducible exact exact_mulWords.mono _ _ _)
   | (with_reducible exact exact_pack.mono _ _)
   | (with_reducible exact exact_words.mono _ _)
   | (with_reducible exact LeO.refl _)
   | (with_reducible exact LeO.none _)
   | (with_reducible refine LeO.ite ?_ ?_)
   | (with_reducible refine LeO.bind ?_ (fun _ => ?_))
   | exact exact_mulWords.mono _ _ _
   | exact exact_pack.mono _ _
   | exact exact_words.mono _ _
   | exact LeO.none _
   | refine LeO.ite ?_ ?_
   | refine LeO.bind ?_ (fun _ => ?_)
set_option maxHeartbeats 8000000 in
set_option maxRecDepth 100000 in
theorem exact_NatMul.calls (k : Nat) (a0 : ByteArray) (a1 : ByteArray) (r : ByteArray) (w : World) (h : exact_NatMul.f k a0 a1 = some r) :
  Calls Try.prog 62 #[.string a0, .string a1] w fun e w' => e = .returned (.string r) ∧ Below w.heap.size w w' := by
 have HB := Aside0.mk (Below.refl w.heap.size w)
 have H : ((exact_words.f k a0).bind fun t595 => ((exact_words.f k a1).bind fun t598 => ((exact_mulWords.f k t595 t598).bind fun t601 => ((exact_pack.f k t601).bind fun t604 => (some t604))))) = some r := h
 clear h
 replace H := Option.bind_eq_some_iff.mp H
 obtain ⟨t595, A30, H⟩ := H
 replace H : ((exact_words.f k a1).bind fun t598 => ((exact_mulWords.f k t595 t598).bind fun t601 => ((exact_pack.f k t601).bind fun t604 => (some t604)))) = some r := H
 have A3 := Aside0.mk A30
 clear A30
 replace H := Option.bind_eq_some_iff.mp H
 obtain ⟨t598, A40, H⟩ := H
 replace H : ((exact_mulWords.f k t595 t598).bind fun t601 => ((exact_pack.f k t601).bind fun t604 => (some t604))) = some r := H
 have A4 := Aside0.mk A40
 clear A40
 replace H := Option.bind_eq_some_iff.mp H
 obtain ⟨t601, A50, H⟩ := H
 replace H : ((exact_pack.f k t601).bind fun t604 => (some t604)) = some r := H
 have A5 := Aside0.mk A50
 clear A50
 replace H := Option.bind_eq_some_iff.mp H
 obtain ⟨t604, A60, H⟩ := H
 replace H : (some t604) = some r := H
 have A6 := Aside0.mk A60
 clear A60
 obtain rfl := Option.some.inj H
 go_enter Try.func62, Try.ntmps62
 go_wp2_with (first | ((with_reducible refine gate_callee (f := 70) rfl ?_); refine goesL_ (some 6) rfl rfl Try.func70 (by kernel_rfl) rfl #[.string a0] rfl (by (try simp only [List.map_toArray, List.map_cons, List.map_nil]); first | done | rfl | (simp only [List.length_drop, List.length_take]; rfl)) ?_; (with_reducible refine (exact_words.calls k a0 t595 _ A3.out).mono ?_); rintro e w7 ⟨v596, rfl, ho0, hb⟩; refine ⟨_, rfl, ?_⟩; have n0_ := Aside0.mk (Kd.R_lower ho0 (below_size (by repeat (first | (with_reducible first | exact HB.out | apply below_alloc | apply pw_below_drewN | apply below_drew1) | exact HB.out)))); have n1_ := Aside0.mk (below_step (by repeat (first | (with_reducible first | exact HB.out | apply below_alloc | apply pw_below_drewN | apply below_drew1) | exact HB.out)) hb); clear HB; have HO597 := n0_; have HB := n1_; clear n0_ n1_; (try clear hb); (try clear hb2); (try clear hk); (try clear hi); (try clear ho0)) | ((with_reducible refine gate_callee (f := 70) rfl ?_); refine goesL_ (some 8) rfl rfl Try.func70 (by kernel_rfl) rfl #[.string a1] rfl (by (try simp only [List.map_toArray, List.map_cons, List.map_nil]); first | done | rfl | (simp only [List.length_drop, List.length_take]; rfl)) ?_; (with_reducible refine (exact_words.calls k a1 t598 _ A4.out).mono ?_); rintro e w8 ⟨v599, rfl, ho0, hb⟩; refine ⟨_, rfl, ?_⟩; have n0_ := Aside0.mk (Kd.R_elder' (by (with_reducible repeat (first | apply Kd.R_alloc | apply Kd.R_drewN | apply Kd.R_drew)); exact HO597.out) (Kd.R_base ho0) hb); have n1_ := Aside0.mk (Kd.R_lower (Kd.R_new' ho0 (Kd.R_lt (by (with_reducible repeat (first | apply Kd.R_alloc | apply Kd.R_drewN | apply Kd.R_drew)); exact HO597.out))) (below_size (by repeat (first | (with_reducible first | exact HB.out | apply below_alloc | apply pw_below_drewN | apply below_drew1) | exact HB.out)))); have n2_ := Aside0.mk (below_step (by repeat (first | (with_reducible first | exact HB.out | apply below_alloc | apply pw_below_drewN | apply below_drew1) | exact HB.out)) hb); clear HO597; clear HB; have HO597 := n0_; have HO600 := n1_; have HB := n2_; clear n0_ n1_ n2_; (try clear hb); (try clear hb2); (try clear hk); (try clear hi); (try clear ho0); obtain ⟨Ao9, co9, eo9⟩ := Kd.R_slice HO597.out; subst eo9; obtain ⟨Ao10, co10, eo10⟩ := Kd.R_slice HO600.out; subst eo10) | ((with_reducible refine gate_callee (f := 73) rfl ?_); refine goesL_ (some 9) rfl rfl Try.func73 (by kernel_rfl) rfl #[.slice Ao9 t595.length co9, .slice Ao10 t598.length co10] rfl (by (try simp only [List.map_toArray, List.map_cons, List.map_nil]); first | done | rfl | (simp only [List.length_drop, List.length_take]; rfl)) ?_; (with_reducible refine (exact_mulWords.calls k _ _ t595 _ _ t598 t601 _ ?side1 ?side2 ?side3 ?side4 A5.out).mono ?_); (case side1 => repeat (first | exact (Kd.R_reads' HO597.out).2.2 | (with_reducible refine Kd.C_alloc ?_ _) | (with_reducible refine Kd.C_drewN ?_ _) | (with_reducible refine Kd.C_drew ?_))); (case side2 => exact (Kd.R_reads' HO597.out).2.1); (case side3 => repeat (first | exact (Kd.R_reads' HO600.out).2.2 | (with_reducible refine Kd.C_alloc ?_ _) | (with_reducible refine Kd.C_drewN ?_ _) | (with_reducible refine Kd.C_drew ?_))); (case side4 => exact (Kd.R_reads' HO600.out).2.1); rintro e w11 ⟨v602, rfl, ho0, hb⟩; refine ⟨_, rfl, ?_⟩; have n0_ := Aside0.mk (Kd.R_elder' (by (with_reducible repeat (first | apply Kd.R_alloc | apply Kd.R_drewN | apply Kd.R_drew)); exact HO597.out) (Kd.R_base ho0) hb); have n1_ := Aside0.mk (Kd.R_elder' (by (with_reducible repeat (first | apply Kd.R_alloc | apply Kd.R_drewN | apply Kd.R_drew)); exact HO600.out) (Kd.R_base ho0) hb); have n2_ := Aside0.mk (Kd.R_lower (Kd.R_new' (Kd.R_new' ho0 (Kd.R_lt (by (with_reducible repeat (first | apply Kd.R_alloc | apply Kd.R_drewN | apply Kd.R_drew)); exact HO597.out))) (Kd.R_lt (by (with_reducible repeat (first | apply Kd.R_alloc | apply Kd.R_drewN | apply Kd.R_drew)); exact HO600.out))) (below_size (by repeat (first | (with_reducible first | exact HB.out | apply below_alloc | apply pw_below_drewN | apply below_drew1) | exact HB.out)))); have n3_ := Aside0.mk (below_step (by repeat (first | (with_reducible first | exact HB.out | apply below_alloc | apply pw_below_drewN | apply below_drew1) | exact HB.out)) hb); clear HO597; clear HO600; clear HB; have HO597 := n0_; have HO600 := n1_; have HO603 := n2_; have HB := n3_; clear n0_ n1_ n2_ n3_; (try clear hb); (try clear hb2); (try clear hk); (try clear hi); (try clear ho0); obtain ⟨Ao12, co12, eo12⟩ := Kd.R_slice HO603.out; subst eo12) | ((with_reducible refine gate_callee (f := 71) rfl ?_); refine goesL_ (some 10) rfl rfl Try.func71 (by kernel_rfl) rfl #[.slice Ao12 t601.length co12] rfl (by (try simp only [List.map_toArray, List.map_cons, List.map_nil]); first | done | rfl | (simp only [List.length_drop, List.length_take]; rfl)) ?_; (with_reducible refine (exact_pack.calls k (fun k_ => some k_ = (.slice Ao12 t601.length co12 : Value).ownBlock) (.slice Ao12 t601.length co12) t601 t604 w _ ?side1 ?side2 A6.out).mono ?_); (case side1 => repeat (first | (with_reducible first | exact HB.out | apply below_alloc | apply pw_below_drewN | apply below_drew1) | exact HB.out)); (case side2 => exact Kd.R_tight rfl HO603.out); rintro e w13 ⟨rfl, hb, hkp⟩; refine ⟨_, rfl, ?_⟩; have n0_ := Aside0.mk (Kd.R_mono (ok' := fun k_ => some k_ ≠ (.slice Ao10 t598.length co10 : Value).ownBlock) (Kd.R_keptB (HO597.out) hkp (fun k_ hk_ hs_ => (hk_.2) hs_)) (fun k_ hk_ => hk_.1.1.2)); have n1_ := Aside0.mk (Kd.R_mono (ok' := fun k_ => some k_ ≠ (.slice Ao9 t595.length co9 : Value).ownBlock) (Kd.R_keptB (HO600.out) hkp (fun k_ hk_ hs_ => (hk_.2) hs_)) (fun k_ hk_ => hk_.1.1.2)); have n2_ := Aside0.mk (hb); clear HO597; clear HO600; clear HB; clear HO603; have HO597 := n0_; have HO600 := n1_; have HB := n2_; clear n0_ n1_ n2_; (try clear hb); (try clear hkp)))
 go_ret
 exact ⟨by first | rfl | (simp [errW_none, errW_some] <;> rfl) | (simp [*, errW_none, errW_some] <;> rfl), by repeat (first | (with_reducible first | exact HB.out | apply below_alloc | apply pw_below_drewN | apply below_drew1) | exact HB.out)⟩
def natural_Mul.f (k : Nat) (a0 : ByteArray) (a1 : ByteArray) : Option (ByteArray × Int) := (natural_first.f k (([a0, a1] : List ByteArray))).bind fun t608 => (if t608 = 0 then ((exact_NatMul.f k a0 a1).bind fun t609 => ((natural_bounded.f t609).bind fun bt610 => (some (bt610.1, bt610.2)))) else (some ((⟨#[]⟩ : ByteArray), t608)))
theorem natural_Mul.mono : ∀ a0 a1 k, LeO (natural_Mul.f k a0 a1) (natural_Mul.f (k + 1) a0 a1) := by
 intro a0 a1 k
 unfold natural_Mul.f
 repeat' first
   | (with_reducible exact exact_NatMul.mono _ _ _)
   | (with_reducible exact natural_first.mono _ _)
   | (with_reducible exact LeO.refl _)
   | (with_reducible exact LeO.none _)
   | (with_reducible refine LeO.ite ?_ ?_)
   | (with_reducible refine LeO.bind ?_ (fun _ => ?_))
   | exact exact_NatMul.mono _ _ _
   | exact natural_first.mono _ _
   | exact LeO.none _
   | refine LeO.ite ?_ ?_
   | refine LeO.bind ?_ (fun _ => ?_)
set_option maxHeartbeats 8000000 in
set_option maxRecDepth 100000 in
theorem natural_Mul.calls (k : Nat) (a0 : ByteArray) (a1 : ByteArray) (r1 : ByteArray) (r2 : Int) (w : World) (h : natural_Mul.f k a0 a1 = some (r1, r2)) :
  Calls Try.prog 31 #[.string a0, .string a1] w fun e w' => e = .returned (.tuple #[.string r1, .int .i64 r2]) ∧ Below w.heap.size w w' := by
 have HB := Aside0.mk (Below.refl w.heap.size w)
 have H : ((natural_first.f k (([a0, a1] : List ByteArray))).bind fun t608 => (if t608 = 0 then ((exact_NatMul.f k a0 a1).bind fun t609 => ((natural_bounded.f t609).bind fun bt610 => (some (bt610.1, bt610.2)))) else (some ((⟨#[]⟩ : ByteArray), t608)))) = some (r1, r2) := h
 clear h
 obtain ⟨y605, hy605⟩ : ∃ y_ : List ByteArray, y_ = (([a0, a1] : List ByteArray)) := ⟨_, rfl⟩
 replace H : ((natural_first.f k y605).bind fun t608 => (if t608 = 0 then ((exact_NatMul.f k a0 a1).bind fun t609 => ((natural_bounded.f t609).bind fun bt610 => (some (bt610.1, bt610.2)))) else (some ((⟨#[]⟩ : ByteArray), t608)))) = some (r1, r2) := by first | (rw [hy605]; with_reducible exact H) | (have H2_ := (Option.bind_some _ _).symm.trans H; rw [hy605]; with_reducible exact H2_) | (have H2_ := (Option.bind_some _ _).symm.trans H; with_reducible exact H2_) | with_reducible exact H | (rw [hy605]; exact H) | exact H
 have Ny605 := Aside0.mk hy605
 clear hy605
 replace H := Option.bind_eq_some_iff.mp H
 obtain ⟨t608, A30, H⟩ := H
 replace H : (if t608 = 0 then ((exact_NatMul.f k a0 a1).bind fun t609 => ((natural_bounded.f t609).bind fun bt610 => (some (bt610.1, bt610.2)))) else (some ((⟨#[]⟩ : ByteArray), t608))) = some (r1, r2) := H
 have A3 := Aside0.mk A30
 clear A30
 by_cases c4 : t608 = 0
 ·rw [if_pos c4] at H
  have c4b0 : (t608 == 0) = true := beq_iff_eq.mpr c4
  have c4b1 : (t608 != 0) = false := bne_eq_false_iff_eq.mpr c4
  clear c4
  replace H := Option.bind_eq_some_iff.mp H
  obtain ⟨t609, A50, H⟩ := H
  replace H : ((natural_bounded.f t609).bind fun bt610 => (some (bt610.1, bt610.2))) = some (r1, r2) := H
  have A5 := Aside0.mk A50
  clear A50
  replace H := Option.bind_eq_some_iff.mp H
  obtain ⟨⟨t610, t611⟩, A60, H⟩ := H
  replace H : (some (t610, t611)) = some (r1, r2) := H
  have A6 := Aside0.mk A60
  clear A60
  simp only [Option.some.injEq, Prod.mk.injEq] at H
  obtain ⟨rfl, rfl⟩ := H
  go_enter Try.func31, Try.ntmps31
  go_wp2_with (first | ((with_reducible refine gate_dst (N := 9) rfl ?_); refine Kd.R_lit Kd.string _ 22 ?hg (N := 9) ?hd (xs := ([a0, a1] : List ByteArray)) (inner := [.string a0, .string a1]) (ok := fun _ => True) (okp := fun _ => True) ?hr ?hp (fun _ hk => hk) trivial (Below.refl _ _) (Nat.le_refl _) (by simp) ?_; (case hd => rfl); (case hg => rfl); (case hr => first | (go_simp; done) | (go_simp; rfl)); (case hp => exact (Reps.one (show Kd.M Kd.string _ _ _ a0 [.string a0] from rfl) (Reps.one (show Kd.M Kd.string _ _ _ a1 [.string a1] from rfl) (Reps.none _ _)))); intro v606 w7 ho8 hb hg_ hnew_; clear hg_ hnew_; (first | rw [← Ny605.out] at ho8 | (simp only [Int.reduceToNat] at ho8; rw [← Ny605.out] at ho8)); have n0_ := Aside0.mk (Kd.R_lower ho8 (below_size (by repeat (first | (with_reducible first | exact HB.out | apply below_alloc | apply pw_below_drewN | apply below_drew1) | exact HB.out)))); have n1_ := Aside0.mk (below_step (by repeat (first | (with_reducible first | exact HB.out | apply below_alloc | apply pw_below_drewN | apply below_drew1) | exact HB.out)) hb); clear HB; have HO607 := n0_; have HB := n1_; clear n0_ n1_; clear hb ho8; obtain ⟨Ao9, co9, eo9⟩ := Kd.R_slice HO607.out; subst eo9) | ((with_reducible refine gate_callee (f := 47) rfl ?_); refine goesL_ (some 10) rfl rfl Try.func47 (by kernel_rfl) rfl #[.slice Ao9 y605.length co9] rfl (by (try simp only [List.map_toArray, List.map_cons, List.map_nil]); first | done | rfl | (simp only [List.length_drop, List.length_take]; rfl)) ?_; (with_reducible refine (natural_first.calls k _ _ y605 t608 _ ?side1 ?side2 A3.out).mono ?_); (case side1 => repeat (first | exact (Kd.R_reads' HO607.out).2.2 | (with_reducible refine Kd.C_alloc ?_ _) | (with_reducible refine Kd.C_drewN ?_ _) | (with_reducible refine Kd.C_drew ?_))); (case side2 => exact (Kd.R_reads' HO607.out).2.1); rintro e w' ⟨rfl, ⟨nd, rfl⟩⟩; refine ⟨_, rfl, ?_⟩) | ((with_reducible refine gate_callee (f := 62) rfl ?_); refine goesL_ (some 16) rfl rfl Try.func62 (by kernel_rfl) rfl #[.string a0, .string a1] rfl (by (try simp only [List.map_toArray, List.map_cons, List.map_nil]); first | done | rfl | (simp only [List.length_drop, List.length_take]; rfl)) ?_; (with_reducible refine (exact_NatMul.calls k a0 a1 t609 _ A5.out).mono ?_); rintro e w10 ⟨rfl, hb⟩; refine ⟨_, rfl, ?_⟩; have n0_ := Aside0.mk (Kd.R_below (by (with_reducible repeat (first | apply Kd.R_alloc | apply Kd.R_drewN | apply Kd.R_drew)); exact HO607.out) hb); have n1_ := Aside0.mk (below_step (by repeat (first | (with_reducible first | exact HB.out | apply below_alloc | apply pw_below_drewN | apply below_drew1) | exact HB.out)) hb); clear HO607; clear HB; have HO607 := n0_; have HB := n1_; clear n0_ n1_; (try clear hb); (try clear hb2); (try clear hk); (try clear hi)) | ((with_reducible refine gate_callee (f := 55) rfl ?_); refine goesL_ (some 17) rfl rfl Try.func55 (by kernel_rfl) rfl #[.string t609] rfl (by (try simp only [List.map_toArray, List.map_cons, List.map_nil]); first | done | rfl | (simp only [List.length_drop, List.length_take]; rfl)) ?_; (with_reducible refine (natural_bounded.calls t609 t610 t611 _ A6.out).mono ?_); rintro e w' ⟨rfl, ⟨nd, rfl⟩⟩; refine ⟨_, rfl, ?_⟩))
  go_ret2
  exact ⟨by first | rfl | (simp [errW_none, errW_some] <;> rfl) | (simp [*, errW_none, errW_some] <;> rfl), by repeat (first | (with_reducible first | exact HB.out | apply below_alloc | apply pw_below_drewN | apply below_drew1) | exact HB.out)⟩
 ·rw [if_neg c4] at H
  have c4b0 : (t608 == 0) = false := beq_eq_false_iff_ne.mpr c4
  have c4b1 : (t608 != 0) = true := bne_iff_ne.mpr c4
  simp only [Option.some.injEq, Prod.mk.injEq] at H
  obtain ⟨rfl, rfl⟩ := H
  go_enter Try.func31, Try.ntmps31
  go_wp2_with (first | ((with_reducible refine gate_dst (N := 9) rfl ?_); refine Kd.R_lit Kd.string _ 22 ?hg (N := 9) ?hd (xs := ([a0, a1] : List ByteArray)) (inner := [.string a0, .string a1]) (ok := fun _ => True) (okp := fun _ => True) ?hr ?hp (fun _ hk => hk) trivial (Below.refl _ _) (Nat.le_refl _) (by simp) ?_; (case hd => rfl); (case hg => rfl); (case hr => first | (go_simp; done) | (go_simp; rfl)); (case hp => exact (Reps.one (show Kd.M Kd.string _ _ _ a0 [.string a0] from rfl) (Reps.one (show Kd.M Kd.string _ _ _ a1 [.string a1] from rfl) (Reps.none _ _)))); intro v606 w11 ho12 hb hg_ hnew_; clear hg_ hnew_; (first | rw [← Ny605.out] at ho12 | (simp only [Int.reduceToNat] at ho12; rw [← Ny605.out] at ho12)); have n0_ := Aside0.mk (Kd.R_lower ho12 (below_size (by repeat (first | (with_reducible first | exact HB.out | apply below_alloc | apply pw_below_drewN | apply below_drew1) | exact HB.out)))); have n1_ := Aside0.mk (below_step (by repeat (first | (with_reducible first | exact HB.out | apply below_alloc | apply pw_below_drewN | apply below_drew1) | exact HB.out)) hb); clear HB; have HO607 := n0_; have HB := n1_; clear n0_ n1_; clear hb ho12; obtain ⟨Ao13, co13, eo13⟩ := Kd.R_slice HO607.out; subst eo13) | ((with_reducible refine gate_callee (f := 47) rfl ?_); refine goesL_ (some 10) rfl rfl Try.func47 (by kernel_rfl) rfl #[.slice Ao13 y605.length co13] rfl (by (try simp only [List.map_toArray, List.map_cons, List.map_nil]); first | done | rfl | (simp only [List.length_drop, List.length_take]; rfl)) ?_; (with_reducible refine (natural_first.calls k _ _ y605 t608 _ ?side1 ?side2 A3.out).mono ?_); (case side1 => repeat (first | exact (Kd.R_reads' HO607.out).2.2 | (with_reducible refine Kd.C_alloc ?_ _) | (with_reducible refine Kd.C_drewN ?_ _) | (with_reducible refine Kd.C_drew ?_))); (case side2 => exact (Kd.R_reads' HO607.out).2.1); rintro e w' ⟨rfl, ⟨nd, rfl⟩⟩; refine ⟨_, rfl, ?_⟩))
  go_ret2
  exact ⟨by first | rfl | (simp [errW_none, errW_some] <;> rfl) | (simp [*, errW_none, errW_some] <;> rfl), by repeat (first | (with_reducible first | exact HB.out | apply below_alloc | apply pw_below_drewN | apply below_drew1) | exact HB.out)⟩
end Go.Proofs.Ytohkmnbnjacfaaa.All
namespace Go.Proofs.Ytohkmnbnjacfaaa.All
open Go.Proofs.YtohkmnbnjacfaaaX
open Go.RowKit Go.Proofs.YtohkmnbnjacfaaaW.PrintWords Go.Proofs.YtohkmnbnjacfaaaW.PrintLast Go.Proofs.YtohkmnbnjacfaaaW.PrintMore
attribute [local go_sem] max2_int min2_int max_two min_two max_three min_three max_four min_four
set_option linter.unusedVariables false
set_option linter.unusedSimpArgs false
end Go.Proofs.Ytohkmnbnjacfaaa.All
namespace Go.Proofs.Ytohkmnbnjacfaaa.All
open Go.Proofs.YtohkmnbnjacfaaaX
open Go.RowKit Go.Proofs.YtohkmnbnjacfaaaW.PrintWords Go.Proofs.YtohkmnbnjacfaaaW.PrintLast Go.Proofs.YtohkmnbnjacfaaaW.PrintMore
attribute [local go_sem] max2_int min2_int max_two min_two max_three min_three max_four min_four
set_option linter.unusedVariables false
set_option linter.unusedSimpArgs false
def natural_Add.f (k : Nat) (a0 : ByteArray) (a1 : ByteArray) : Option (ByteArray × Int) := (natural_first.f k (([a0, a1] : List ByteArray))).bind fun t656 => (if t656 = 0 then ((exact_NatAdd.f k a0 a1).bind fun t657 => ((natural_bounded.f t657).bind fun bt658 => (some (bt658.1, bt658.2)))) else (some ((⟨#[]⟩ : ByteArray), t656)))
theorem natural_Add.mono : ∀ a0 a1 k, LeO (natural_Add.f k a0 a1) (natural_Add.f (k + 1) a0 a1) := by
 intro a0 a1 k
 unfold natural_Add.f
 repeat' first
   | (with_reducible exact exact_NatAdd.mono _ _ _)
   | (with_reducible exact natural_first.mono _ _)
   | (with_reducible exact LeO.refl _)
   | (with_reducible exact LeO.none _)
   | (with_reducible refine LeO.ite ?_ ?_)
   | (with_reducible refine LeO.bind ?_ (fun _ => ?_))
   | exact exact_NatAdd.mono _ _ _
   | exact natural_first.mono _ _
   | exact LeO.none _
   | refine LeO.ite ?_ ?_
   | refine LeO.bind ?_ (fun _ => ?_)
set_option maxHeartbeats 8000000 in
set_option maxRecDepth 100000 in
theorem natural_Add.calls (k : Nat) (a0 : ByteArray) (a1 : ByteArray) (r1 : ByteArray) (r2 : Int) (w : World) (h : natural_Add.f k a0 a1 = some (r1, r2)) :
  Calls Try.prog 35 #[.string a0, .string a1] w fun e w' => e = .returned (.tuple #[.string r1, .int .i64 r2]) ∧ Below w.heap.size w w' := by
 have HB := Aside0.mk (Below.refl w.heap.size w)
 have H : ((natural_first.f k (([a0, a1] : List ByteArray))).bind fun t656 => (if t656 = 0 then ((exact_NatAdd.f k a0 a1).bind fun t657 => ((natural_bounded.f t657).bind fun bt658 => (some (bt658.1, bt658.2)))) else (some ((⟨#[]⟩ : ByteArray), t656)))) = some (r1, r2) := h
 clear h
 obtain ⟨y653, hy653⟩ : ∃ y_ : List ByteArray, y_ = (([a0, a1] : List ByteArray)) := ⟨_, rfl⟩
 replace H : ((natural_first.f k y653).bind fun t656 => (if t656 = 0 then ((exact_NatAdd.f k a0 a1).bind fun t657 => ((natural_bounded.f t657).bind fun bt658 => (some (bt658.1, bt658.2)))) else (some ((⟨#[]⟩ : ByteArray), t656)))) = some (r1, r2) := by first | (rw [hy653]; with_reducible exact H) | (have H2_ := (Option.bind_some _ _).symm.trans H; rw [hy653]; with_reducible exact H2_) | (have H2_ := (Option.bind_some _ _).symm.trans H; with_reducible exact H2_) | with_reducible exact H | (rw [hy653]; exact H) | exact H
 have Ny653 := Aside0.mk hy653
 clear hy653
 replace H := Option.bind_eq_some_iff.mp H
 obtain ⟨t656, A30, H⟩ := H
 replace H : (if t656 = 0 then ((exact_NatAdd.f k a0 a1).bind fun t657 => ((natural_bounded.f t657).bind fun bt658 => (some (bt658.1, bt658.2)))) else (some ((⟨#[]⟩ : ByteArray), t656))) = some (r1, r2) := H
 have A3 := Aside0.mk A30
 clear A30
 by_cases c4 : t656 = 0
 ·rw [if_pos c4] at H
  have c4b0 : (t656 == 0) = true := beq_iff_eq.mpr c4
  have c4b1 : (t656 != 0) = false := bne_eq_false_iff_eq.mpr c4
  clear c4
  replace H := Option.bind_eq_some_iff.mp H
  obtain ⟨t657, A50, H⟩ := H
  replace H : ((natural_bounded.f t657).bind fun bt658 => (some (bt658.1, bt658.2))) = some (r1, r2) := H
  have A5 := Aside0.mk A50
  clear A50
  replace H := Option.bind_eq_some_iff.mp H
  obtain ⟨⟨t658, t659⟩, A60, H⟩ := H
  replace H : (some (t658, t659)) = some (r1, r2) := H
  have A6 := Aside0.mk A60
  clear A60
  simp only [Option.some.injEq, Prod.mk.injEq] at H
  obtain ⟨rfl, rfl⟩ := H
  go_enter Try.func35, Try.ntmps35
  go_wp2_with (first | ((with_reducible refine gate_dst (N := 9) rfl ?_); refine Kd.R_lit Kd.string _ 22 ?hg (N := 9) ?hd (xs := ([a0, a1] : List ByteArray)) (inner := [.string a0, .string a1]) (ok := fun _ => True) (okp := fun _ => True) ?hr ?hp (fun _ hk => hk) trivial (Below.refl _ _) (Nat.le_refl _) (by simp) ?_; (case hd => rfl); (case hg => rfl); (case hr => first | (go_simp; done) | (go_simp; rfl)); (case hp => exact (Reps.one (show Kd.M Kd.string _ _ _ a0 [.string a0] from rfl) (Reps.one (show Kd.M Kd.string _ _ _ a1 [.string a1] from rfl) (Reps.none _ _)))); intro v654 w7 ho8 hb hg_ hnew_; clear hg_ hnew_; (first | rw [← Ny653.out] at ho8 | (simp only [Int.reduceToNat] at ho8; rw [← Ny653.out] at ho8)); have n0_ := Aside0.mk (Kd.R_lower ho8 (below_size (by repeat (first | (with_reducible first | exact HB.out | apply below_alloc | apply pw_below_drewN | apply below_drew1) | exact HB.out)))); have n1_ := Aside0.mk (below_step (by repeat (first | (with_reducible first | exact HB.out | apply below_alloc | apply pw_below_drewN | apply below_drew1) | exact HB.out)) hb); clear HB; have HO655 := n0_; have HB := n1_; clear n0_ n1_; clear hb ho8; obtain ⟨Ao9, co9, eo9⟩ := Kd.R_slice HO655.out; subst eo9) | ((with_reducible refine gate_callee (f := 47) rfl ?_); refine goesL_ (some 10) rfl rfl Try.func47 (by kernel_rfl) rfl #[.slice Ao9 y653.length co9] rfl (by (try simp only [List.map_toArray, List.map_cons, List.map_nil]); first | done | rfl | (simp only [List.length_drop, List.length_take]; rfl)) ?_; (with_reducible refine (natural_first.calls k _ _ y653 t656 _ ?side1 ?side2 A3.out).mono ?_); (case side1 => repeat (first | exact (Kd.R_reads' HO655.out).2.2 | (with_reducible refine Kd.C_alloc ?_ _) | (with_reducible refine Kd.C_drewN ?_ _) | (with_reducible refine Kd.C_drew ?_))); (case side2 => exact (Kd.R_reads' HO655.out).2.1); rintro e w' ⟨rfl, ⟨nd, rfl⟩⟩; refine ⟨_, rfl, ?_⟩) | ((with_reducible refine gate_callee (f := 63) rfl ?_); refine goesL_ (some 16) rfl rfl Try.func63 (by kernel_rfl) rfl #[.string a0, .string a1] rfl (by (try simp only [List.map_toArray, List.map_cons, List.map_nil]); first | done | rfl | (simp only [List.length_drop, List.length_take]; rfl)) ?_; (with_reducible refine (exact_NatAdd.calls k a0 a1 t657 _ A5.out).mono ?_); rintro e w10 ⟨rfl, hb⟩; refine ⟨_, rfl, ?_⟩; have n0_ := Aside0.mk (Kd.R_below (by (with_reducible repeat (first | apply Kd.R_alloc | apply Kd.R_drewN | apply Kd.R_drew)); exact HO655.out) hb); have n1_ := Aside0.mk (below_step (by repeat (first | (with_reducible first | exact HB.out | apply below_alloc | apply pw_below_drewN | apply below_drew1) | exact HB.out)) hb); clear HO655; clear HB; have HO655 := n0_; have HB := n1_; clear n0_ n1_; (try clear hb); (try clear hb2); (try clear hk); (try clear hi)) | ((with_reducible refine gate_callee (f := 55) rfl ?_); refine goesL_ (some 17) rfl rfl Try.func55 (by kernel_rfl) rfl #[.string t657] rfl (by (try simp only [List.map_toArray, List.map_cons, List.map_nil]); first | done | rfl | (simp only [List.length_drop, List.length_take]; rfl)) ?_; (with_reducible refine (natural_bounded.calls t657 t658 t659 _ A6.out).mono ?_); rintro e w' ⟨rfl, ⟨nd, rfl⟩⟩; refine ⟨_, rfl, ?_⟩))
  go_ret2
  exact ⟨by first | rfl | (simp [errW_none, errW_some] <;> rfl) | (simp [*, errW_none, errW_some] <;> rfl), by repeat (first | (with_reducible first | exact HB.out | apply below_alloc | apply pw_below_drewN | apply below_drew1) | exact HB.out)⟩
 ·rw [if_neg c4] at H
  have c4b0 : (t656 == 0) = false := beq_eq_false_iff_ne.mpr c4
  have c4b1 : (t656 != 0) = true := bne_iff_ne.mpr c4
  simp only [Option.some.injEq, Prod.mk.injEq] at H
  obtain ⟨rfl, rfl⟩ := H
  go_enter Try.func35, Try.ntmps35
  go_wp2_with (first | ((with_reducible refine gate_dst (N := 9) rfl ?_); refine Kd.R_lit Kd.string _ 22 ?hg (N := 9) ?hd (xs := ([a0, a1] : List ByteArray)) (inner := [.string a0, .string a1]) (ok := fun _ => True) (okp := fun _ => True) ?hr ?hp (fun _ hk => hk) trivial (Below.refl _ _) (Nat.le_refl _) (by simp) ?_; (case hd => rfl); (case hg => rfl); (case hr => first | (go_simp; done) | (go_simp; rfl)); (case hp => exact (Reps.one (show Kd.M Kd.string _ _ _ a0 [.string a0] from rfl) (Reps.one (show Kd.M Kd.string _ _ _ a1 [.string a1] from rfl) (Reps.none _ _)))); intro v654 w11 ho12 hb hg_ hnew_; clear hg_ hnew_; (first | rw [← Ny653.out] at ho12 | (simp only [Int.reduceToNat] at ho12; rw [← Ny653.out] at ho12)); have n0_ := Aside0.mk (Kd.R_lower ho12 (below_size (by repeat (first | (with_reducible first | exact HB.out | apply below_alloc | apply pw_below_drewN | apply below_drew1) | exact HB.out)))); have n1_ := Aside0.mk (below_step (by repeat (first | (with_reducible first | exact HB.out | apply below_alloc | apply pw_below_drewN | apply below_drew1) | exact HB.out)) hb); clear HB; have HO655 := n0_; have HB := n1_; clear n0_ n1_; clear hb ho12; obtain ⟨Ao13, co13, eo13⟩ := Kd.R_slice HO655.out; subst eo13) | ((with_reducible refine gate_callee (f := 47) rfl ?_); refine goesL_ (some 10) rfl rfl Try.func47 (by kernel_rfl) rfl #[.slice Ao13 y653.length co13] rfl (by (try simp only [List.map_toArray, List.map_cons, List.map_nil]); first | done | rfl | (simp only [List.length_drop, List.length_take]; rfl)) ?_; (with_reducible refine (natural_first.calls k _ _ y653 t656 _ ?side1 ?side2 A3.out).mono ?_); (case side1 => repeat (first | exact (Kd.R_reads' HO655.out).2.2 | (with_reducible refine Kd.C_alloc ?_ _) | (with_reducible refine Kd.C_drewN ?_ _) | (with_reducible refine Kd.C_drew ?_))); (case side2 => exact (Kd.R_reads' HO655.out).2.1); rintro e w' ⟨rfl, ⟨nd, rfl⟩⟩; refine ⟨_, rfl, ?_⟩))
  go_ret2
  exact ⟨by first | rfl | (simp [errW_none, errW_some] <;> rfl) | (simp [*, errW_none, errW_some] <;> rfl), by repeat (first | (with_reducible first | exact HB.out | apply below_alloc | apply pw_below_drewN | apply below_drew1) | exact HB.out)⟩
def natural_Compare.f (k : Nat) (a0 : ByteArray) (a1 : ByteArray) : Option (Int × Int) := (natural_first.f k (([a0, a1] : List ByteArray))).bind fun t663 => (if t663 = 0 then ((exact_NatCmp.f k a0 a1).bind fun t664 => (some (t664, 0))) else (some (0, t663)))
theorem natural_Compare.mono : ∀ a0 a1 k, LeO (natural_Compare.f k a0 a1) (natural_Compare.f (k + 1) a0 a1) := by
 intro a0 a1 k
 unfold natural_Compare.f
 repeat' first
   | (with_reducible exact exact_NatCmp.mono _ _ _)
   | (with_reducible exact natural_first.mono _ _)
   | (with_reducible exact LeO.refl _)
   | (with_reducible exact LeO.none _)
   | (with_reducible refine LeO.ite ?_ ?_)
   | (with_reducible refine LeO.bind ?_ (fun _ => ?_))
   | exact exact_NatCmp.mono _ _ _
   | exact natural_first.mono _ _
   | exact LeO.none _
   | refine LeO.ite ?_ ?_
   | refine LeO.bind ?_ (fun _ => ?_)
set_option maxHeartbeats 8000000 in
set_option maxRecDepth 100000 in
theorem natural_Compare.calls (k : Nat) (a0 : ByteArray) (a1 : ByteArray) (r1 : Int) (r2 : Int) (w : World) (h : natural_Compare.f k a0 a1 = some (r1, r2)) :
  Calls Try.prog 36 #[.string a0, .string a1] w fun e w' => e = .returned (.tuple #[.int .i64 r1, .int .i64 r2]) ∧ Below w.heap.size w w' := by
 have HB := Aside0.mk (Below.refl w.heap.size w)
 have H : ((natural_first.f k (([a0, a1] : List ByteArray))).bind fun t663 => (if t663 = 0 then ((exact_NatCmp.f k a0 a1).bind fun t664 => (some (t664, 0))) else (some (0, t663)))) = some (r1, r2) := h
 clear h
 obtain ⟨y660, hy660⟩ : ∃ y_ : List ByteArray, y_ = (([a0, a1] : List ByteArray)) := ⟨_, rfl⟩
 replace H : ((natural_first.f k y660).bind fun t663 => (if t663 = 0 then ((exact_NatCmp.f k a0 a1).bind fun t664 => (some (t664, 0))) else (some (0, t663)))) = some (r1, r2) := by first | (rw [hy660]; with_reducible exact H) | (have H2_ := (Option.bind_some _ _).symm.trans H; rw [hy660]; with_reducible exact H2_) | (have H2_ := (Option.bind_some _ _).symm.trans H; with_reducible exact H2_) | with_reducible exact H | (rw [hy660]; exact H) | exact H
 have Ny660 := Aside0.mk hy660
 clear hy660
 replace H := Option.bind_eq_some_iff.mp H
 obtain ⟨t663, A30, H⟩ := H
 replace H : (if t663 = 0 then ((exact_NatCmp.f k a0 a1).bind fun t664 => (some (t664, 0))) else (some (0, t663))) = some (r1, r2) := H
 have A3 := Aside0.mk A30
 clear A30
 by_cases c4 : t663 = 0
 ·rw [if_pos c4] at H
  have c4b0 : (t663 == 0) = true := beq_iff_eq.mpr c4
  have c4b1 : (t663 != 0) = false := bne_eq_false_iff_eq.mpr c4
  clear c4
  replace H := Option.bind_eq_some_iff.mp H
  obtain ⟨t664, A50, H⟩ := H
  replace H : (some (t664, 0)) = some (r1, r2) := H
  have A5 := Aside0.mk A50
  clear A50
  simp only [Option.some.injEq, Prod.mk.injEq] at H
  obtain ⟨rfl, rfl⟩ := H
  go_enter Try.func36, Try.ntmps36
  go_wp2_with (first | ((with_reducible refine gate_dst (N := 9) rfl ?_); refine Kd.R_lit Kd.string _ 22 ?hg (N := 9) ?hd (xs := ([a0, a1] : List ByteArray)) (inner := [.string a0, .string a1]) (ok := fun _ => True) (okp := fun _ => True) ?hr ?hp (fun _ hk => hk) trivial (Below.refl _ _) (Nat.le_refl _) (by simp) ?_; (case hd => rfl); (case hg => rfl); (case hr => first | (go_simp; done) | (go_simp; rfl)); (case hp => exact (Reps.one (show Kd.M Kd.string _ _ _ a0 [.string a0] from rfl) (Reps.one (show Kd.M Kd.string _ _ _ a1 [.string a1] from rfl) (Reps.none _ _)))); intro v661 w6 ho7 hb hg_ hnew_; clear hg_ hnew_; (first | rw [← Ny660.out] at ho7 | (simp only [Int.reduceToNat] at ho7; rw [← Ny660.out] at ho7)); have n0_ := Aside0.mk (Kd.R_lower ho7 (below_size (by repeat (first | (with_reducible first | exact HB.out | apply below_alloc | apply pw_below_drewN | apply below_drew1) | exact HB.out)))); have n1_ := Aside0.mk (below_step (by repeat (first | (with_reducible first | exact HB.out | apply below_alloc | apply pw_below_drewN | apply below_drew1) | exact HB.out)) hb); clear HB; have HO662 := n0_; have HB := n1_; clear n0_ n1_; clear hb ho7; obtain ⟨Ao8, co8, eo8⟩ := Kd.R_slice HO662.out; subst eo8) | ((with_reducible refine gate_callee (f := 47) rfl ?_); refine goesL_ (some 10) rfl rfl Try.func47 (by kernel_rfl) rfl #[.slice Ao8 y660.length co8] rfl (by (try simp only [List.map_toArray, List.map_cons, List.map_nil]); first | done | rfl | (simp only [List.length_drop, List.length_take]; rfl)) ?_; (with_reducible refine (natural_first.calls k _ _ y660 t663 _ ?side1 ?side2 A3.out).mono ?_); (case side1 => repeat (first | exact (Kd.R_reads' HO662.out).2.2 | (with_reducible refine Kd.C_alloc ?_ _) | (with_reducible refine Kd.C_drewN ?_ _) | (with_reducible refine Kd.C_drew ?_))); (case side2 => exact (Kd.R_reads' HO662.out).2.1); rintro e w' ⟨rfl, ⟨nd, rfl⟩⟩; refine ⟨_, rfl, ?_⟩) | ((with_reducible refine gate_callee (f := 64) rfl ?_); refine goesL_ (some 16) rfl rfl Try.func64 (by kernel_rfl) rfl #[.string a0, .string a1] rfl (by (try simp only [List.map_toArray, List.map_cons, List.map_nil]); first | done | rfl | (simp only [List.length_drop, List.length_take]; rfl)) ?_; (with_reducible refine (exact_NatCmp.calls k a0 a1 t664 _ A5.out).mono ?_); rintro e w' ⟨rfl, ⟨nd, rfl⟩⟩; refine ⟨_, rfl, ?_⟩))
  go_ret2
  exact ⟨by first | rfl | (simp [errW_none, errW_some] <;> rfl) | (simp [*, errW_none, errW_some] <;> rfl), by repeat (first | (with_reducible first | exact HB.out | apply below_alloc | apply pw_below_drewN | apply below_drew1) | exact HB.out)⟩
 ·rw [if_neg c4] at H
  have c4b0 : (t663 == 0) = false := beq_eq_false_iff_ne.mpr c4
  have c4b1 : (t663 != 0) = true := bne_iff_ne.mpr c4
  simp only [Option.some.injEq, Prod.mk.injEq] at H
  obtain ⟨rfl, rfl⟩ := H
  go_enter Try.func36, Try.ntmps36
  go_wp2_with (first | ((with_reducible refine gate_dst (N := 9) rfl ?_); refine Kd.R_lit Kd.string _ 22 ?hg (N := 9) ?hd (xs := ([a0, a1] : List ByteArray)) (inner := [.string a0, .string a1]) (ok := fun _ => True) (okp := fun _ => True) ?hr ?hp (fun _ hk => hk) trivial (Below.refl _ _) (Nat.le_refl _) (by simp) ?_; (case hd => rfl); (case hg => rfl); (case hr => first | (go_simp; done) | (go_simp; rfl)); (case hp => exact (Reps.one (show Kd.M Kd.string _ _ _ a0 [.string a0] from rfl) (Reps.one (show Kd.M Kd.string _ _ _ a1 [.string a1] from rfl) (Reps.none _ _)))); intro v661 w9 ho10 hb hg_ hnew_; clear hg_ hnew_; (first | rw [← Ny660.out] at ho10 | (simp only [Int.reduceToNat] at ho10; rw [← Ny660.out] at ho10)); have n0_ := Aside0.mk (Kd.R_lower ho10 (below_size (by repeat (first | (with_reducible first | exact HB.out | apply below_alloc | apply pw_below_drewN | apply below_drew1) | exact HB.out)))); have n1_ := Aside0.mk (below_step (by repeat (first | (with_reducible first | exact HB.out | apply below_alloc | apply pw_below_drewN | apply below_drew1) | exact HB.out)) hb); clear HB; have HO662 := n0_; have HB := n1_; clear n0_ n1_; clear hb ho10; obtain ⟨Ao11, co11, eo11⟩ := Kd.R_slice HO662.out; subst eo11) | ((with_reducible refine gate_callee (f := 47) rfl ?_); refine goesL_ (some 10) rfl rfl Try.func47 (by kernel_rfl) rfl #[.slice Ao11 y660.length co11] rfl (by (try simp only [List.map_toArray, List.map_cons, List.map_nil]); first | done | rfl | (simp only [List.length_drop, List.length_take]; rfl)) ?_; (with_reducible refine (natural_first.calls k _ _ y660 t663 _ ?side1 ?side2 A3.out).mono ?_); (case side1 => repeat (first | exact (Kd.R_reads' HO662.out).2.2 | (with_reducible refine Kd.C_alloc ?_ _) | (with_reducible refine Kd.C_drewN ?_ _) | (with_reducible refine Kd.C_drew ?_))); (case side2 => exact (Kd.R_reads' HO662.out).2.1); rintro e w' ⟨rfl, ⟨nd, rfl⟩⟩; refine ⟨_, rfl, ?_⟩))
  go_ret2
  exact ⟨by first | rfl | (simp [errW_none, errW_some] <;> rfl) | (simp [*, errW_none, errW_some] <;> rfl), by repeat (first | (with_reducible first | exact HB.out | apply below_alloc | apply pw_below_drewN | apply below_drew1) | exact HB.out)⟩
end Go.Proofs.Ytohkmnbnjacfaaa.All
namespace Go.Proofs.Ytohkmnbnjacfaaa.All
open Go.Proofs.YtohkmnbnjacfaaaX
open Go.RowKit Go.Proofs.YtohkmnbnjacfaaaW.PrintWords Go.Proofs.YtohkmnbnjacfaaaW.PrintLast Go.Proofs.YtohkmnbnjacfaaaW.PrintMore
attribute [local go_sem] max2_int min2_int max_two min_two max_three min_three max_four min_four
set_option linter.unusedVariables false
set_option linter.unusedSimpArgs false
def galoisref01_Sub.l0 : Nat → List Int → List Int → Int → Int → Option (ByteArray)
 | 0, _, _, _, _ => none
 | k + 1, x5, x6, x7, x8 => if x8 < (x5.length : Int) then (if x8 < (x6.length : Int) then (if 0 ≤ x8 then (if (rd x5 x8) < (IntKind.u64.wrap (x7 + (rd x6 x8))) then ((some (x5.set (x8 : Int).toNat (IntKind.u64.wrap ((rd x5 x8) + 4294967296)) : List Int)).bind fun y721 => (galoisref01_Sub.l0 k (y721.set (x8 : Int).toNat (IntKind.u64.wrap ((rd y721 x8) - (IntKind.u64.wrap (x7 + (rd x6 x8)))))) x6 1 (wrap64 (x8 + 1)))) else (galoisref01_Sub.l0 k (x5.set (x8 : Int).toNat (IntKind.u64.wrap ((rd x5 x8) - (IntKind.u64.wrap (x7 + (rd x6 x8)))))) x6 0 (wrap64 (x8 + 1)))) else (none)) else (if 0 ≤ x8 then (if (rd x5 x8) < x7 then ((some (x5.set (x8 : Int).toNat (IntKind.u64.wrap ((rd x5 x8) + 4294967296)) : List Int)).bind fun y728 => (galoisref01_Sub.l0 k (y728.set (x8 : Int).toNat (IntKind.u64.wrap ((rd y728 x8) - x7))) x6 1 (wrap64 (x8 + 1)))) else (galoisref01_Sub.l0 k (x5.set (x8 : Int).toNat (IntKind.u64.wrap ((rd x5 x8) - x7))) x6 0 (wrap64 (x8 + 1)))) else (none))) else ((galoisref01_pack.f k x5).bind fun t717 => (some t717))
def galoisref01_Sub.f (k : Nat) (a0 : ByteArray) (a1 : ByteArray) : Option (ByteArray) := (galoisref01_Compare.f k a0 a1).bind fun t710 => (if t710 < 0 then (some (⟨#[]⟩ : ByteArray)) else ((galoisref01_limbs.f k a0).bind fun t711 => ((galoisref01_limbs.f k a1).bind fun t714 => (galoisref01_Sub.l0 k t711 t714 0 0))))
theorem galoisref01_Sub.mono_l : ∀ k, (∀ y0 y1 y2 y3, LeO (galoisref01_Sub.l0 k y0 y1 y2 y3) (galoisref01_Sub.l0 (k + 1) y0 y1 y2 y3))
 | 0 => fun _ _ _ _ r h => by simp [galoisref01_Sub.l0] at h
 | k + 1 => by
  have ih0 := galoisref01_Sub.mono_l k
  ·intro y0 y1 y2 y3
   unfold galoisref01_Sub.l0
   repeat' first
   | (with_reducible exact ih0 _ _ _ _)
   | (with_reducible exact galoisref01_Compare.mono _ _ _)
   | (with_reducible exact galoisref01_limbs.mono _ _)
   | (with_reducible exact galoisref01_pack.mono _ _)
   | (with_reducible exact LeO.refl _)
   | (with_reducible exact LeO.none _)
   | (with_reducible refine LeO.ite ?_ ?_)
   | (with_reducible refine LeO.bind ?_ (fun _ => ?_))
   | exact ih0 _ _ _ _
   | exact galoisref01_Compare.mono _ _ _
   | exact galoisref01_limbs.mono _ _
   | exact galoisref01_pack.mono _ _
   | exact LeO.none _
   | refine LeO.ite ?_ ?_
   | refine LeO.bind ?_ (fun _ => ?_)
theorem galoisref01_Sub.mono : ∀ a0 a1 k, LeO (galoisref01_Sub.f k a0 a1) (galoisref01_Sub.f (k + 1) a0 a1) := by
 intro a0 a1 k
 have ih0 := galoisref01_Sub.mono_l k
 unfold galoisref01_Sub.f
 repeat' first
   | (with_reducible exact ih0 _ _ _ _)
   | (with_reducible exact galoisref01_Compare.mono _ _ _)
   | (with_reducible exact galoisref01_limbs.mono _ _)
   | (with_reducible exact galoisref01_pack.mono _ _)
   | (with_reducible exact LeO.refl _)
   | (with_reducible exact LeO.none _)
   | (with_reducible refine LeO.ite ?_ ?_)
   | (with_reducible refine LeO.bind ?_ (fun _ => ?_))
   | exact ih0 _ _ _ _
   | exact galoisref01_Compare.mono _ _ _
   | exact galoisref01_limbs.mono _ _
   | exact galoisref01_pack.mono _ _
   | exact LeO.none _
   | refine LeO.ite ?_ ?_
   | refine LeO.bind ?_ (fun _ => ?_)
set_option maxHeartbeats 8000000 in
set_option maxRecDepth 100000 in
theorem galoisref01_Sub.calls (k : Nat) (a0 : ByteArray) (a1 : ByteArray) (r : ByteArray) (w : World) (h : galoisref01_Sub.f k a0 a1 = some r) :
  Calls Try.prog 41 #[.string a0, .string a1] w fun e w' => e = .returned (.string r) ∧ Below w.heap.size w w' := by
 have HB := Aside0.mk (Below.refl w.heap.size w)
 have H : ((galoisref01_Compare.f k a0 a1).bind fun t710 => (if t710 < 0 then (some (⟨#[]⟩ : ByteArray)) else ((galoisref01_limbs.f k a0).bind fun t711 => ((galoisref01_limbs.f k a1).bind fun t714 => (galoisref01_Sub.l0 k t711 t714 0 0))))) = some r := h
 clear h
 replace H := Option.bind_eq_some_iff.mp H
 obtain ⟨t710, A30, H⟩ := H
 replace H : (if t710 < 0 then (some (⟨#[]⟩ : ByteArray)) else ((galoisref01_limbs.f k a0).bind fun t711 => ((galoisref01_limbs.f k a1).bind fun t714 => (galoisref01_Sub.l0 k t711 t714 0 0)))) = some r := H
 have A3 := Aside0.mk A30
 clear A30
 by_cases c4 : t710 < 0
 ·rw [if_pos c4] at H
  have c4b0 : decide (t710 < 0) = true := decide_eq_true c4
  clear c4
  obtain rfl := Option.some.inj H
  go_enter Try.func41, Try.ntmps41
  go_wp2_with (first | ((with_reducible refine gate_callee (f := 39) rfl ?_); refine goesL_ (some 12) rfl rfl Try.func39 (by kernel_rfl) rfl #[.string a0, .string a1] rfl (by (try simp only [List.map_toArray, List.map_cons, List.map_nil]); first | done | rfl | (simp only [List.length_drop, List.length_take]; rfl)) ?_; (with_reducible refine (galoisref01_Compare.calls k a0 a1 t710 _ A3.out).mono ?_); rintro e w' ⟨rfl, ⟨nd, rfl⟩⟩; refine ⟨_, rfl, ?_⟩))
  go_ret
  exact ⟨by first | rfl | (simp [errW_none, errW_some] <;> rfl) | (simp [*, errW_none, errW_some] <;> rfl), by repeat (first | (with_reducible first | exact HB.out | apply below_alloc | apply pw_below_drewN | apply below_drew1) | exact HB.out)⟩
 ·rw [if_neg c4] at H
  have c4b0 : decide (t710 < 0) = false := decide_eq_false c4
  clear c4
  replace H := Option.bind_eq_some_iff.mp H
  obtain ⟨t711, A50, H⟩ := H
  replace H : ((galoisref01_limbs.f k a1).bind fun t714 => (galoisref01_Sub.l0 k t711 t714 0 0)) = some r := H
  have A5 := Aside0.mk A50
  clear A50
  replace H := Option.bind_eq_some_iff.mp H
  obtain ⟨t714, A60, H⟩ := H
  replace H : (galoisref01_Sub.l0 k t711 t714 0 0) = some r := H
  have A6 := Aside0.mk A60
  clear A60
  have H' := Aside0.mk H
  clear H
  go_enter Try.func41, Try.ntmps41
  go_wp2_with (first | ((with_reducible refine gate_callee (f := 39) rfl ?_); refine goesL_ (some 12) rfl rfl Try.func39 (by kernel_rfl) rfl #[.string a0, .string a1] rfl (by (try simp only [List.map_toArray, List.map_cons, List.map_nil]); first | done | rfl | (simp only [List.length_drop, List.length_take]; rfl)) ?_; (with_reducible refine (galoisref01_Compare.calls k a0 a1 t710 _ A3.out).mono ?_); rintro e w' ⟨rfl, ⟨nd, rfl⟩⟩; refine ⟨_, rfl, ?_⟩) | ((with_reducible refine gate_callee (f := 51) rfl ?_); refine goesL_ (some 15) rfl rfl Try.func51 (by kernel_rfl) rfl #[.string a0] rfl (by (try simp only [List.map_toArray, List.map_cons, List.map_nil]); first | done | rfl | (simp only [List.length_drop, List.length_take]; rfl)) ?_; (with_reducible refine (galoisref01_limbs.calls k a0 t711 _ A5.out).mono ?_); rintro e w7 ⟨v712, rfl, ho0, hb⟩; refine ⟨_, rfl, ?_⟩; have n0_ := Aside0.mk (Kd.R_lower ho0 (below_size (by repeat (first | (with_reducible first | exact HB.out | apply below_alloc | apply pw_below_drewN | apply below_drew1) | exact HB.out)))); have n1_ := Aside0.mk (below_step (by repeat (first | (with_reducible first | exact HB.out | apply below_alloc | apply pw_below_drewN | apply below_drew1) | exact HB.out)) hb); clear HB; have HO713 := n0_; have HB := n1_; clear n0_ n1_; (try clear hb); (try clear hb2); (try clear hk); (try clear hi); (try clear ho0)) | ((with_reducible refine gate_callee (f := 51) rfl ?_); refine goesL_ (some 17) rfl rfl Try.func51 (by kernel_rfl) rfl #[.string a1] rfl (by (try simp only [List.map_toArray, List.map_cons, List.map_nil]); first | done | rfl | (simp only [List.length_drop, List.length_take]; rfl)) ?_; (with_reducible refine (galoisref01_limbs.calls k a1 t714 _ A6.out).mono ?_); rintro e w8 ⟨v715, rfl, ho0, hb⟩; refine ⟨_, rfl, ?_⟩; have n0_ := Aside0.mk (Kd.R_elder' (by (with_reducible repeat (first | apply Kd.R_alloc | apply Kd.R_drewN | apply Kd.R_drew)); exact HO713.out) (Kd.R_base ho0) hb); have n1_ := Aside0.mk (Kd.R_lower (Kd.R_new' ho0 (Kd.R_lt (by (with_reducible repeat (first | apply Kd.R_alloc | apply Kd.R_drewN | apply Kd.R_drew)); exact HO713.out))) (below_size (by repeat (first | (with_reducible first | exact HB.out | apply below_alloc | apply pw_below_drewN | apply below_drew1) | exact HB.out)))); have n2_ := Aside0.mk (below_step (by repeat (first | (with_reducible first | exact HB.out | apply below_alloc | apply pw_below_drewN | apply below_drew1) | exact HB.out)) hb); clear HO713; clear HB; have HO713 := n0_; have HO716 := n1_; have HB := n2_; clear n0_ n1_ n2_; (try clear hb); (try clear hb2); (try clear hk); (try clear hi); (try clear ho0)))
  go_loopg [7, 8] k (fun kq v7 v8 w' => ∃ (x5_1 : List Int) (x7_1 : Int) (x8_1 : Int), v7 = .int .u64 x7_1 ∧ v8 = .int .i64 x8_1 ∧ Aside0 (galoisref01_Sub.l0 kq x5_1 t714 x7_1 x8_1 = some r) ∧ Aside0 (kq ≤ k) ∧ Aside0 (Kd.R (Kd.int .u64) 49 w' w.heap.size (fun k_ => some k_ ≠ (v715 : Value).ownBlock) v712 x5_1) ∧ Aside0 (Kd.R (Kd.int .u64) 49 w' w.heap.size (fun k_ => some k_ ≠ (v712 : Value).ownBlock) v715 t714) ∧ Aside0 (Below w.heap.size w w'))
  case atStart => exact ⟨(t711), (0), (0), (by first | rfl | (simp; done) | (simp [*]; done)), (by first | rfl | (simp; done) | (simp [*]; done)), H', ⟨Nat.le_refl _⟩, ⟨by (with_reducible repeat (first | apply Kd.R_alloc | apply Kd.R_drewN | apply Kd.R_drew)); exact Kd.R_mono HO713.out (fun _ hk => hk.2)⟩, ⟨by (with_reducible repeat (first | apply Kd.R_alloc | apply Kd.R_drewN | apply Kd.R_drew)); exact Kd.R_mono HO716.out (fun _ hk => hk.2)⟩, ⟨by repeat (first | (with_reducible first | exact HB.out | apply below_alloc | apply pw_below_drewN | apply below_drew1) | exact HB.out)⟩⟩
  case round =>
   clear H'
   try clear p2
   try clear c3
   try clear c4
   try clear c4b0
   try clear c5
   obtain ⟨x5_1, x7_1, x8_1, rfl, rfl, HA, HK1, HO_5, HO_6, HB⟩ := hrel
   cases gk with
   | zero => exact absurd HA.out (by simp [galoisref01_Sub.l0])
   | succ k1 =>
    have H := HA.out
    clear HA
    simp only [galoisref01_Sub.l0] at H
    by_cases c9 : x8_1 < (x5_1.length : Int)
    ·rw [if_pos c9] at H
     have c9b0 : decide (x8_1 < (x5_1.length : Int)) = true := decide_eq_true c9
     clear c9
     by_cases c10 : x8_1 < (t714.length : Int)
     ·rw [if_pos c10] at H
      have c10b0 : decide (x8_1 < (t714.length : Int)) = true := decide_eq_true c10
      clear c10
      by_cases c11 : 0 ≤ x8_1
      ·rw [if_pos c11] at H
       have c11b0 : decide (0 ≤ x8_1) = true := decide_eq_true c11
       clear c11
       by_cases c12 : (rd x5_1 x8_1) < (IntKind.u64.wrap (x7_1 + (rd t714 x8_1)))
       ·rw [if_pos c12] at H
        have c12b0 : decide ((rd x5_1 x8_1) < (IntKind.u64.wrap (x7_1 + (rd t714 x8_1)))) = true := decide_eq_true c12
        clear c12
        obtain ⟨y721, hy721⟩ : ∃ y_ : List Int, y_ = (x5_1.set (x8_1 : Int).toNat (IntKind.u64.wrap ((rd x5_1 x8_1) + 4294967296))) := ⟨_, rfl⟩
        replace H : (galoisref01_Sub.l0 k1 (y721.set (x8_1 : Int).toNat (IntKind.u64.wrap ((rd y721 x8_1) - (IntKind.u64.wrap (x7_1 + (rd t714 x8_1)))))) t714 1 (wrap64 (x8_1 + 1))) = some r := by first | (rw [hy721]; with_reducible exact H) | (have H2_ := (Option.bind_some _ _).symm.trans H; rw [hy721]; with_reducible exact H2_) | (have H2_ := (Option.bind_some _ _).symm.trans H; with_reducible exact H2_) | with_reducible exact H | (rw [hy721]; exact H) | exact H
        have Ny721 := Aside0.mk hy721
        clear hy721
        obtain ⟨y723, hy723⟩ : ∃ y_ : List Int, y_ = (y721.set (x8_1 : Int).toNat (IntKind.u64.wrap ((rd y721 x8_1) - (IntKind.u64.wrap (x7_1 + (rd t714 x8_1)))))) := ⟨_, rfl⟩
        replace H : (galoisref01_Sub.l0 k1 y723 t714 1 (wrap64 (x8_1 + 1))) = some r := by first | (rw [hy723]; with_reducible exact H) | (have H2_ := (Option.bind_some _ _).symm.trans H; rw [hy723]; with_reducible exact H2_) | (have H2_ := (Option.bind_some _ _).symm.trans H; with_reducible exact H2_) | with_reducible exact H | (rw [hy723]; exact H) | exact H
        have Ny723 := Aside0.mk hy723
        clear hy723
        have H' := Aside0.mk H
        clear H
        obtain ⟨Ao15, co15, eo15⟩ := Kd.R_slice HO_5.out
        subst eo15
        obtain ⟨Ao16, co16, eo16⟩ := Kd.R_slice HO_6.out
        subst eo16
        have p718 : 0 ≤ (x8_1 : Int) := of_decide_eq_true (by first | (with_reducible assumption) | assumption)
        have q718 : x8_1 < (t714.length : Int) := of_decide_eq_true (by first | (with_reducible assumption) | assumption)
        obtain ⟨ad718, e718, hx718_0⟩ := Kd.at_int (Kd.R_reads' HO_6.out).2.2 x8_1 p718 q718
        cases e718
        replace p718 := eq_true p718
        replace q718 := eq_true q718
        have p719 : 0 ≤ (x8_1 : Int) := of_decide_eq_true (by first | (with_reducible assumption) | assumption)
        have q719 : x8_1 < (x5_1.length : Int) := of_decide_eq_true (by first | (with_reducible assumption) | assumption)
        obtain ⟨ad719, e719, hx719_0⟩ := Kd.at_int (Kd.R_reads' HO_5.out).2.2 x8_1 p719 q719
        cases e719
        replace p719 := eq_true p719
        replace q719 := eq_true q719
        have p720 : 0 ≤ (x8_1 : Int) := of_decide_eq_true (by first | (with_reducible assumption) | assumption)
        have q720 : x8_1 < (x5_1.length : Int) := of_decide_eq_true (by first | (with_reducible assumption) | assumption)
        obtain ⟨ad720, e720, hx720_0⟩ := Kd.at_int (Kd.R_reads' HO_5.out).2.2 x8_1 p720 q720
        obtain rfl : ad719 = ad720 := (by injection e720)
        replace p720 := eq_true p720
        replace q720 := eq_true q720
        have p13 : 0 ≤ (x8_1 : Int) := of_decide_eq_true (by first | (with_reducible assumption) | assumption)
        have q13 : (x8_1 : Int) < ((x5_1.length : Int) : Int) := of_decide_eq_true (by first | (with_reducible assumption) | assumption)
        obtain ⟨go13, co13, eo13, gb13, gl13, cl13, HG13⟩ := Kd.R_form HO_5.out (by omega)
        (first | cases eo13 | (injection eo13 with ea_ en_ ec_; (first | subst ea_ | (injection ea_ with ea_; subst ea_)); subst ec_; clear en_))
        have GB13 := Aside0.mk gb13
        have GG13 := Aside0.mk HG13
        clear gb13 gl13 HG13
        (first | simp only [add_plain] at hx719_0 | skip)
        (first | simp only [add_plain] at hx720_0 | skip)
        obtain ⟨hx13_0, hf13_0⟩ := Kd.R_celln 0 HO_5.out (x8_1 : Int) p13 q13; (try simp only [Int.toNat_natCast] at hx13_0 hf13_0)
        replace p13 := eq_true p13
        replace q13 := eq_true q13
        have HP17 := Kd.R_putg HO_5.out (x8_1 : Int) (IntKind.u64.wrap ((rd x5_1 x8_1) + 4294967296))
        go_wp2_with (first | ((with_reducible refine gate_store (t := 49) (p := 48) rfl ?_); refine store_event (t := 49) (p := 48) (v := ?vo_w18) (w1 := (wr.setCell ⟨go13, (x8_1 : Int).toNat, none⟩ (.int .u64 (IntKind.u64.wrap ((rd x5_1 x8_1) + 4294967296))))) ?hg ?ho ?hn ?hr ?_; (case ho => rfl); (case hg => rfl); (case hn => rfl); (case hr => first | (go_simp; done) | (go_simp; rfl)); intro w18 hw; have hg : wr.grownBy w18 (some go13) := (by rw [hw]; exact HP17.2); have hp_ : Kd.R (Kd.int .u64) 49 w18 w.heap.size (fun k_ => some k_ ≠ (.slice (some ad718) t714.length co16 : Value).ownBlock) (.slice (some ⟨go13, 0, none⟩) x5_1.length co15) y721 := (by rw [hw, Ny721.out]; exact HP17.1); clear HP17; have n0_ := Aside0.mk (hp_); have n1_ := Aside0.mk (Kd.R_after (v := (.slice (some ⟨go13, 0, none⟩) x5_1.length co15)) (v1 := (.slice (some ⟨go13, 0, none⟩) x5_1.length co15)) (ok := (fun _ => True)) (by (with_reducible repeat (first | apply Kd.R_alloc | apply Kd.R_drewN | apply Kd.R_drew)); exact Kd.R_mono HO_6.out (fun _ hk => ⟨trivial, hk⟩)) hg (.inl rfl)); have n2_ := Aside0.mk ((by rw [hw]; exact below_set (HB.out) GB13.out : Below w.heap.size w w18)); clear HO_5; clear HO_6; clear HB; have HO_5 := n0_; have HO_6 := n1_; have HB := n2_; clear n0_ n1_ n2_; clear hg hw hp_; have p722 : 0 ≤ (x8_1 : Int) := of_decide_eq_true (by first | (with_reducible assumption) | assumption); have q722 : x8_1 < (y721.length : Int) := (by have h_ : (x8_1 : Int) < ((x5_1.length : Int) : Int) := of_decide_eq_true (by first | (with_reducible assumption) | assumption); first | (have e_ := (Kd.R_reads' HO_5.out).1; omega) | simpa only [Ny721.out, List.length_set] using h_); have ql722 : ((x8_1 : Int) < ((x5_1.length : Int) : Int)) = True := eq_true (of_decide_eq_true (by first | (with_reducible assumption) | assumption)); obtain ⟨ad722, e722, hx722_0⟩ := Kd.at_int (Kd.R_reads' HO_5.out).2.2 x8_1 p722 q722; obtain rfl : (⟨go13, 0, none⟩ : Addr) = ad722 := (by injection e722); (first | simp only [add_plain] at hx722_0 | simp only [add_at] at hx722_0 | simp only [Addr.add, Nat.zero_add] at hx722_0 | skip); replace p722 := eq_true p722; replace q722 := eq_true q722; have p14 : 0 ≤ (x8_1 : Int) := of_decide_eq_true (by first | (with_reducible assumption) | assumption); have q14 : (x8_1 : Int) < ((x5_1.length : Int) : Int) := of_decide_eq_true (by first | (with_reducible assumption) | assumption); obtain ⟨hx14_0, hf14_0⟩ := Kd.R_celln 0 HO_5.out (x8_1 : Int) p14 q14; (try simp only [Int.toNat_natCast] at hx14_0 hf14_0); replace p14 := eq_true p14; replace q14 := eq_true q14; obtain ⟨hy19_, hz19_⟩ := Kd.R_celln 0 HO_5.out (x8_1 : Int) (of_decide_eq_true (by first | (with_reducible assumption) | assumption)) (of_decide_eq_true (by first | (with_reducible assumption) | assumption)); (try simp only [Int.toNat_natCast] at hy19_ hz19_); have HP19 := Kd.R_putg HO_5.out (x8_1 : Int) (IntKind.u64.wrap ((rd y721 x8_1) - (IntKind.u64.wrap (x7_1 + (rd t714 x8_1)))))) | ((with_reducible refine gate_store (t := 49) (p := 57) rfl ?_); refine store_event (t := 49) (p := 57) (v := ?vo_w20) (w1 := (w18.setCell ⟨go13, (x8_1 : Int).toNat, none⟩ (.int .u64 (IntKind.u64.wrap ((rd y721 x8_1) - (IntKind.u64.wrap (x7_1 + (rd t714 x8_1)))))))) ?hg ?ho ?hn ?hr ?_; (case ho => rfl); (case hg => rfl); (case hn => rfl); (case hr => first | (go_simp; done) | (go_simp; rfl)); intro w20 hw; have hg : w18.grownBy w20 (some go13) := (by rw [hw]; exact HP19.2); have hp_ : Kd.R (Kd.int .u64) 49 w20 w.heap.size (fun k_ => some k_ ≠ (.slice (some ad718) t714.length co16 : Value).ownBlock) (.slice (some ⟨go13, 0, none⟩) x5_1.length co15) y723 := (by rw [hw, Ny723.out]; exact HP19.1); clear HP19; have n0_ := Aside0.mk (hp_); have n1_ := Aside0.mk (Kd.R_after (v := (.slice (some ⟨go13, 0, none⟩) x5_1.length co15)) (v1 := (.slice (some ⟨go13, 0, none⟩) x5_1.length co15)) (ok := (fun _ => True)) (by (with_reducible repeat (first | apply Kd.R_alloc | apply Kd.R_drewN | apply Kd.R_drew)); exact HO_6.out) hg (.inl rfl)); have n2_ := Aside0.mk ((by rw [hw]; exact below_set (HB.out) GB13.out : Below w.heap.size w w20)); clear HO_5; clear HO_6; clear HB; have HO_5 := n0_; have HO_6 := n1_; have HB := n2_; clear n0_ n1_ n2_; clear hg hw hp_))
        go_roundg k1
        case measure => have := HK1.out; omega
        case rel => exact ⟨(y723), (1), (wrap64 (x8_1 + 1)), (by first | rfl | (simp; done) | (simp [*]; done)), (by first | rfl | (simp; done) | (simp [*]; done)), H', ⟨by have := HK1.out; omega⟩, ⟨by (with_reducible repeat (first | apply Kd.R_alloc | apply Kd.R_drewN | apply Kd.R_drew)); exact HO_5.out⟩, ⟨by (with_reducible repeat (first | apply Kd.R_alloc | apply Kd.R_drewN | apply Kd.R_drew)); exact Kd.R_mono HO_6.out (fun _ hk => hk.2)⟩, ⟨by repeat (first | (with_reducible first | exact HB.out | apply below_alloc | apply pw_below_drewN | apply below_drew1) | exact HB.out)⟩⟩
       ·rw [if_neg c12] at H
        have c12b0 : decide ((rd x5_1 x8_1) < (IntKind.u64.wrap (x7_1 + (rd t714 x8_1)))) = false := decide_eq_false c12
        clear c12
        obtain ⟨y725, hy725⟩ : ∃ y_ : List Int, y_ = (x5_1.set (x8_1 : Int).toNat (IntKind.u64.wrap ((rd x5_1 x8_1) - (IntKind.u64.wrap (x7_1 + (rd t714 x8_1)))))) := ⟨_, rfl⟩
        replace H : (galoisref01_Sub.l0 k1 y725 t714 0 (wrap64 (x8_1 + 1))) = some r := by first | (rw [hy725]; with_reducible exact H) | (have H2_ := (Option.bind_some _ _).symm.trans H; rw [hy725]; with_reducible exact H2_) | (have H2_ := (Option.bind_some _ _).symm.trans H; with_reducible exact H2_) | with_reducible exact H | (rw [hy725]; exact H) | exact H
        have Ny725 := Aside0.mk hy725
        clear hy725
        have H' := Aside0.mk H
        clear H
        obtain ⟨Ao22, co22, eo22⟩ := Kd.R_slice HO_5.out
        subst eo22
        obtain ⟨Ao23, co23, eo23⟩ := Kd.R_slice HO_6.out
        subst eo23
        have p718 : 0 ≤ (x8_1 : Int) := of_decide_eq_true (by first | (with_reducible assumption) | assumption)
        have q718 : x8_1 < (t714.length : Int) := of_decide_eq_true (by first | (with_reducible assumption) | assumption)
        obtain ⟨ad718, e718, hx718_0⟩ := Kd.at_int (Kd.R_reads' HO_6.out).2.2 x8_1 p718 q718
        cases e718
        replace p718 := eq_true p718
        replace q718 := eq_true q718
        have p719 : 0 ≤ (x8_1 : Int) := of_decide_eq_true (by first | (with_reducible assumption) | assumption)
        have q719 : x8_1 < (x5_1.length : Int) := of_decide_eq_true (by first | (with_reducible assumption) | assumption)
        obtain ⟨ad719, e719, hx719_0⟩ := Kd.at_int (Kd.R_reads' HO_5.out).2.2 x8_1 p719 q719
        cases e719
        replace p719 := eq_true p719
        replace q719 := eq_true q719
        have p724 : 0 ≤ (x8_1 : Int) := of_decide_eq_true (by first | (with_reducible assumption) | assumption)
        have q724 : x8_1 < (x5_1.length : Int) := of_decide_eq_true (by first | (with_reducible assumption) | assumption)
        obtain ⟨ad724, e724, hx724_0⟩ := Kd.at_int (Kd.R_reads' HO_5.out).2.2 x8_1 p724 q724
        obtain rfl : ad719 = ad724 := (by injection e724)
        replace p724 := eq_true p724
        replace q724 := eq_true q724
        have p21 : 0 ≤ (x8_1 : Int) := of_decide_eq_true (by first | (with_reducible assumption) | assumption)
        have q21 : (x8_1 : Int) < ((x5_1.length : Int) : Int) := of_decide_eq_true (by first | (with_reducible assumption) | assumption)
        obtain ⟨go21, co21, eo21, gb21, gl21, cl21, HG21⟩ := Kd.R_form HO_5.out (by omega)
        (first | cases eo21 | (injection eo21 with ea_ en_ ec_; (first | subst ea_ | (injection ea_ with ea_; subst ea_)); subst ec_; clear en_))
        have GB21 := Aside0.mk gb21
        have GG21 := Aside0.mk HG21
        clear gb21 gl21 HG21
        (first | simp only [add_plain] at hx719_0 | skip)
        (first | simp only [add_plain] at hx724_0 | skip)
        obtain ⟨hx21_0, hf21_0⟩ := Kd.R_celln 0 HO_5.out (x8_1 : Int) p21 q21; (try simp only [Int.toNat_natCast] at hx21_0 hf21_0)
        replace p21 := eq_true p21
        replace q21 := eq_true q21
        have HP24 := Kd.R_putg HO_5.out (x8_1 : Int) (IntKind.u64.wrap ((rd x5_1 x8_1) - (IntKind.u64.wrap (x7_1 + (rd t714 x8_1)))))
        go_wp2_with (first | ((with_reducible refine gate_store (t := 49) (p := 57) rfl ?_); refine store_event (t := 49) (p := 57) (v := ?vo_w25) (w1 := (wr.setCell ⟨go21, (x8_1 : Int).toNat, none⟩ (.int .u64 (IntKind.u64.wrap ((rd x5_1 x8_1) - (IntKind.u64.wrap (x7_1 + (rd t714 x8_1)))))))) ?hg ?ho ?hn ?hr ?_; (case ho => rfl); (case hg => rfl); (case hn => rfl); (case hr => first | (go_simp; done) | (go_simp; rfl)); intro w25 hw; have hg : wr.grownBy w25 (some go21) := (by rw [hw]; exact HP24.2); have hp_ : Kd.R (Kd.int .u64) 49 w25 w.heap.size (fun k_ => some k_ ≠ (.slice (some ad718) t714.length co23 : Value).ownBlock) (.slice (some ⟨go21, 0, none⟩) x5_1.length co22) y725 := (by rw [hw, Ny725.out]; exact HP24.1); clear HP24; have n0_ := Aside0.mk (hp_); have n1_ := Aside0.mk (Kd.R_after (v := (.slice (some ⟨go21, 0, none⟩) x5_1.length co22)) (v1 := (.slice (some ⟨go21, 0, none⟩) x5_1.length co22)) (ok := (fun _ => True)) (by (with_reducible repeat (first | apply Kd.R_alloc | apply Kd.R_drewN | apply Kd.R_drew)); exact Kd.R_mono HO_6.out (fun _ hk => ⟨trivial, hk⟩)) hg (.inl rfl)); have n2_ := Aside0.mk ((by rw [hw]; exact below_set (HB.out) GB21.out : Below w.heap.size w w25)); clear HO_5; clear HO_6; clear HB; have HO_5 := n0_; have HO_6 := n1_; have HB := n2_; clear n0_ n1_ n2_; clear hg hw hp_))
        go_roundg k1
        case measure => have := HK1.out; omega
        case rel => exact ⟨(y725), (0), (wrap64 (x8_1 + 1)), (by first | rfl | (simp; done) | (simp [*]; done)), (by first | rfl | (simp; done) | (simp [*]; done)), H', ⟨by have := HK1.out; omega⟩, ⟨by (with_reducible repeat (first | apply Kd.R_alloc | apply Kd.R_drewN | apply Kd.R_drew)); exact HO_5.out⟩, ⟨by (with_reducible repeat (first | apply Kd.R_alloc | apply Kd.R_drewN | apply Kd.R_drew)); exact Kd.R_mono HO_6.out (fun _ hk => hk.2)⟩, ⟨by repeat (first | (with_reducible first | exact HB.out | apply below_alloc | apply pw_below_drewN | apply below_drew1) | exact HB.out)⟩⟩
      ·rw [if_neg c11] at H
       exact absurd H (by simp)
     ·rw [if_neg c10] at H
      have c10b0 : decide (x8_1 < (t714.length : Int)) = false := decide_eq_false c10
      clear c10
      by_cases c26 : 0 ≤ x8_1
      ·rw [if_pos c26] at H
       have c26b0 : decide (0 ≤ x8_1) = true := decide_eq_true c26
       clear c26
       by_cases c27 : (rd x5_1 x8_1) < x7_1
       ·rw [if_pos c27] at H
        have c27b0 : decide ((rd x5_1 x8_1) < x7_1) = true := decide_eq_true c27
        clear c27
        obtain ⟨y728, hy728⟩ : ∃ y_ : List Int, y_ = (x5_1.set (x8_1 : Int).toNat (IntKind.u64.wrap ((rd x5_1 x8_1) + 4294967296))) := ⟨_, rfl⟩
        replace H : (galoisref01_Sub.l0 k1 (y728.set (x8_1 : Int).toNat (IntKind.u64.wrap ((rd y728 x8_1) - x7_1))) t714 1 (wrap64 (x8_1 + 1))) = some r := by first | (rw [hy728]; with_reducible exact H) | (have H2_ := (Option.bind_some _ _).symm.trans H; rw [hy728]; with_reducible exact H2_) | (have H2_ := (Option.bind_some _ _).symm.trans H; with_reducible exact H2_) | with_reducible exact H | (rw [hy728]; exact H) | exact H
        have Ny728 := Aside0.mk hy728
        clear hy728
        obtain ⟨y730, hy730⟩ : ∃ y_ : List Int, y_ = (y728.set (x8_1 : Int).toNat (IntKind.u64.wrap ((rd y728 x8_1) - x7_1))) := ⟨_, rfl⟩
        replace H : (galoisref01_Sub.l0 k1 y730 t714 1 (wrap64 (x8_1 + 1))) = some r := by first | (rw [hy730]; with_reducible exact H) | (have H2_ := (Option.bind_some _ _).symm.trans H; rw [hy730]; with_reducible exact H2_) | (have H2_ := (Option.bind_some _ _).symm.trans H; with_reducible exact H2_) | with_reducible exact H | (rw [hy730]; exact H) | exact H
        have Ny730 := Aside0.mk hy730
        clear hy730
        have H' := Aside0.mk H
        clear H
        obtain ⟨Ao30, co30, eo30⟩ := Kd.R_slice HO_5.out
        subst eo30
        obtain ⟨Ao31, co31, eo31⟩ := Kd.R_slice HO_6.out
        subst eo31
        have p726 : 0 ≤ (x8_1 : Int) := of_decide_eq_true (by first | (with_reducible assumption) | assumption)
        have q726 : x8_1 < (x5_1.length : Int) := of_decide_eq_true (by first | (with_reducible assumption) | assumption)
        obtain ⟨ad726, e726, hx726_0⟩ := Kd.at_int (Kd.R_reads' HO_5.out).2.2 x8_1 p726 q726
        cases e726
        replace p726 := eq_true p726
        replace q726 := eq_true q726
        have p727 : 0 ≤ (x8_1 : Int) := of_decide_eq_true (by first | (with_reducible assumption) | assumption)
        have q727 : x8_1 < (x5_1.length : Int) := of_decide_eq_true (by first | (with_reducible assumption) | assumption)
        obtain ⟨ad727, e727, hx727_0⟩ := Kd.at_int (Kd.R_reads' HO_5.out).2.2 x8_1 p727 q727
        obtain rfl : ad726 = ad727 := (by injection e727)
        replace p727 := eq_true p727
        replace q727 := eq_true q727
        have p28 : 0 ≤ (x8_1 : Int) := of_decide_eq_true (by first | (with_reducible assumption) | assumption)
        have q28 : (x8_1 : Int) < ((x5_1.length : Int) : Int) := of_decide_eq_true (by first | (with_reducible assumption) | assumption)
        obtain ⟨go28, co28, eo28, gb28, gl28, cl28, HG28⟩ := Kd.R_form HO_5.out (by omega)
        (first | cases eo28 | (injection eo28 with ea_ en_ ec_; (first | subst ea_ | (injection ea_ with ea_; subst ea_)); subst ec_; clear en_))
        have GB28 := Aside0.mk gb28
        have GG28 := Aside0.mk HG28
        clear gb28 gl28 HG28
        (first | simp only [add_plain] at hx726_0 | skip)
        (first | simp only [add_plain] at hx727_0 | skip)
        obtain ⟨hx28_0, hf28_0⟩ := Kd.R_celln 0 HO_5.out (x8_1 : Int) p28 q28; (try simp only [Int.toNat_natCast] at hx28_0 hf28_0)
        replace p28 := eq_true p28
        replace q28 := eq_true q28
        have HP32 := Kd.R_putg HO_5.out (x8_1 : Int) (IntKind.u64.wrap ((rd x5_1 x8_1) + 4294967296))
        go_wp2_with (first | ((with_reducible refine gate_store (t := 49) (p := 48) rfl ?_); refine store_event (t := 49) (p := 48) (v := ?vo_w33) (w1 := (wr.setCell ⟨go28, (x8_1 : Int).toNat, none⟩ (.int .u64 (IntKind.u64.wrap ((rd x5_1 x8_1) + 4294967296))))) ?hg ?ho ?hn ?hr ?_; (case ho => rfl); (case hg => rfl); (case hn => rfl); (case hr => first | (go_simp; done) | (go_simp; rfl)); intro w33 hw; have hg : wr.grownBy w33 (some go28) := (by rw [hw]; exact HP32.2); have hp_ : Kd.R (Kd.int .u64) 49 w33 w.heap.size (fun k_ => some k_ ≠ (.slice Ao31 t714.length co31 : Value).ownBlock) (.slice (some ⟨go28, 0, none⟩) x5_1.length co30) y728 := (by rw [hw, Ny728.out]; exact HP32.1); clear HP32; have n0_ := Aside0.mk (hp_); have n1_ := Aside0.mk (Kd.R_after (v := (.slice (some ⟨go28, 0, none⟩) x5_1.length co30)) (v1 := (.slice (some ⟨go28, 0, none⟩) x5_1.length co30)) (ok := (fun _ => True)) (by (with_reducible repeat (first | apply Kd.R_alloc | apply Kd.R_drewN | apply Kd.R_drew)); exact Kd.R_mono HO_6.out (fun _ hk => ⟨trivial, hk⟩)) hg (.inl rfl)); have n2_ := Aside0.mk ((by rw [hw]; exact below_set (HB.out) GB28.out : Below w.heap.size w w33)); clear HO_5; clear HO_6; clear HB; have HO_5 := n0_; have HO_6 := n1_; have HB := n2_; clear n0_ n1_ n2_; clear hg hw hp_; have p729 : 0 ≤ (x8_1 : Int) := of_decide_eq_true (by first | (with_reducible assumption) | assumption); have q729 : x8_1 < (y728.length : Int) := (by have h_ : (x8_1 : Int) < ((x5_1.length : Int) : Int) := of_decide_eq_true (by first | (with_reducible assumption) | assumption); first | (have e_ := (Kd.R_reads' HO_5.out).1; omega) | simpa only [Ny728.out, List.length_set] using h_); have ql729 : ((x8_1 : Int) < ((x5_1.length : Int) : Int)) = True := eq_true (of_decide_eq_true (by first | (with_reducible assumption) | assumption)); obtain ⟨ad729, e729, hx729_0⟩ := Kd.at_int (Kd.R_reads' HO_5.out).2.2 x8_1 p729 q729; obtain rfl : (⟨go28, 0, none⟩ : Addr) = ad729 := (by injection e729); (first | simp only [add_plain] at hx729_0 | simp only [add_at] at hx729_0 | simp only [Addr.add, Nat.zero_add] at hx729_0 | skip); replace p729 := eq_true p729; replace q729 := eq_true q729; have p29 : 0 ≤ (x8_1 : Int) := of_decide_eq_true (by first | (with_reducible assumption) | assumption); have q29 : (x8_1 : Int) < ((x5_1.length : Int) : Int) := of_decide_eq_true (by first | (with_reducible assumption) | assumption); obtain ⟨hx29_0, hf29_0⟩ := Kd.R_celln 0 HO_5.out (x8_1 : Int) p29 q29; (try simp only [Int.toNat_natCast] at hx29_0 hf29_0); replace p29 := eq_true p29; replace q29 := eq_true q29; obtain ⟨hy34_, hz34_⟩ := Kd.R_celln 0 HO_5.out (x8_1 : Int) (of_decide_eq_true (by first | (with_reducible assumption) | assumption)) (of_decide_eq_true (by first | (with_reducible assumption) | assumption)); (try simp only [Int.toNat_natCast] at hy34_ hz34_); have HP34 := Kd.R_putg HO_5.out (x8_1 : Int) (IntKind.u64.wrap ((rd y728 x8_1) - x7_1))) | ((with_reducible refine gate_store (t := 49) (p := 57) rfl ?_); refine store_event (t := 49) (p := 57) (v := ?vo_w35) (w1 := (w33.setCell ⟨go28, (x8_1 : Int).toNat, none⟩ (.int .u64 (IntKind.u64.wrap ((rd y728 x8_1) - x7_1))))) ?hg ?ho ?hn ?hr ?_; (case ho => rfl); (case hg => rfl); (case hn => rfl); (case hr => first | (go_simp; done) | (go_simp; rfl)); intro w35 hw; have hg : w33.grownBy w35 (some go28) := (by rw [hw]; exact HP34.2); have hp_ : Kd.R (Kd.int .u64) 49 w35 w.heap.size (fun k_ => some k_ ≠ (.slice Ao31 t714.length co31 : Value).ownBlock) (.slice (some ⟨go28, 0, none⟩) x5_1.length co30) y730 := (by rw [hw, Ny730.out]; exact HP34.1); clear HP34; have n0_ := Aside0.mk (hp_); have n1_ := Aside0.mk (Kd.R_after (v := (.slice (some ⟨go28, 0, none⟩) x5_1.length co30)) (v1 := (.slice (some ⟨go28, 0, none⟩) x5_1.length co30)) (ok := (fun _ => True)) (by (with_reducible repeat (first | apply Kd.R_alloc | apply Kd.R_drewN | apply Kd.R_drew)); exact HO_6.out) hg (.inl rfl)); have n2_ := Aside0.mk ((by rw [hw]; exact below_set (HB.out) GB28.out : Below w.heap.size w w35)); clear HO_5; clear HO_6; clear HB; have HO_5 := n0_; have HO_6 := n1_; have HB := n2_; clear n0_ n1_ n2_; clear hg hw hp_))
        go_roundg k1
        case measure => have := HK1.out; omega
        case rel => exact ⟨(y730), (1), (wrap64 (x8_1 + 1)), (by first | rfl | (simp; done) | (simp [*]; done)), (by first | rfl | (simp; done) | (simp [*]; done)), H', ⟨by have := HK1.out; omega⟩, ⟨by (with_reducible repeat (first | apply Kd.R_alloc | apply Kd.R_drewN | apply Kd.R_drew)); exact HO_5.out⟩, ⟨by (with_reducible repeat (first | apply Kd.R_alloc | apply Kd.R_drewN | apply Kd.R_drew)); exact Kd.R_mono HO_6.out (fun _ hk => hk.2)⟩, ⟨by repeat (first | (with_reducible first | exact HB.out | apply below_alloc | apply pw_below_drewN | apply below_drew1) | exact HB.out)⟩⟩
       ·rw [if_neg c27] at H
        have c27b0 : decide ((rd x5_1 x8_1) < x7_1) = false := decide_eq_false c27
        clear c27
        obtain ⟨y732, hy732⟩ : ∃ y_ : List Int, y_ = (x5_1.set (x8_1 : Int).toNat (IntKind.u64.wrap ((rd x5_1 x8_1) - x7_1))) := ⟨_, rfl⟩
        replace H : (galoisref01_Sub.l0 k1 y732 t714 0 (wrap64 (x8_1 + 1))) = some r := by first | (rw [hy732]; with_reducible exact H) | (have H2_ := (Option.bind_some _ _).symm.trans H; rw [hy732]; with_reducible exact H2_) | (have H2_ := (Option.bind_some _ _).symm.trans H; with_reducible exact H2_) | with_reducible exact H | (rw [hy732]; exact H) | exact H
        have Ny732 := Aside0.mk hy732
        clear hy732
        have H' := Aside0.mk H
        clear H
        obtain ⟨Ao37, co37, eo37⟩ := Kd.R_slice HO_5.out
        subst eo37
        obtain ⟨Ao38, co38, eo38⟩ := Kd.R_slice HO_6.out
        subst eo38
        have p726 : 0 ≤ (x8_1 : Int) := of_decide_eq_true (by first | (with_reducible assumption) | assumption)
        have q726 : x8_1 < (x5_1.length : Int) := of_decide_eq_true (by first | (with_reducible assumption) | assumption)
        obtain ⟨ad726, e726, hx726_0⟩ := Kd.at_int (Kd.R_reads' HO_5.out).2.2 x8_1 p726 q726
        cases e726
        replace p726 := eq_true p726
        replace q726 := eq_true q726
        have p731 : 0 ≤ (x8_1 : Int) := of_decide_eq_true (by first | (with_reducible assumption) | assumption)
        have q731 : x8_1 < (x5_1.length : Int) := of_decide_eq_true (by first | (with_reducible assumption) | assumption)
        obtain ⟨ad731, e731, hx731_0⟩ := Kd.at_int (Kd.R_reads' HO_5.out).2.2 x8_1 p731 q731
        obtain rfl : ad726 = ad731 := (by injection e731)
        replace p731 := eq_true p731
        replace q731 := eq_true q731
        have p36 : 0 ≤ (x8_1 : Int) := of_decide_eq_true (by first | (with_reducible assumption) | assumption)
        have q36 : (x8_1 : Int) < ((x5_1.length : Int) : Int) := of_decide_eq_true (by first | (with_reducible assumption) | assumption)
        obtain ⟨go36, co36, eo36, gb36, gl36, cl36, HG36⟩ := Kd.R_form HO_5.out (by omega)
        (first | cases eo36 | (injection eo36 with ea_ en_ ec_; (first | subst ea_ | (injection ea_ with ea_; subst ea_)); subst ec_; clear en_))
        have GB36 := Aside0.mk gb36
        have GG36 := Aside0.mk HG36
        clear gb36 gl36 HG36
        (first | simp only [add_plain] at hx726_0 | skip)
        (first | simp only [add_plain] at hx731_0 | skip)
        obtain ⟨hx36_0, hf36_0⟩ := Kd.R_celln 0 HO_5.out (x8_1 : Int) p36 q36; (try simp only [Int.toNat_natCast] at hx36_0 hf36_0)
        replace p36 := eq_true p36
        replace q36 := eq_true q36
        have HP39 := Kd.R_putg HO_5.out (x8_1 : Int) (IntKind.u64.wrap ((rd x5_1 x8_1) - x7_1))
        go_wp2_with (first | ((with_reducible refine gate_store (t := 49) (p := 57) rfl ?_); refine store_event (t := 49) (p := 57) (v := ?vo_w40) (w1 := (wr.setCell ⟨go36, (x8_1 : Int).toNat, none⟩ (.int .u64 (IntKind.u64.wrap ((rd x5_1 x8_1) - x7_1))))) ?hg ?ho ?hn ?hr ?_; (case ho => rfl); (case hg => rfl); (case hn => rfl); (case hr => first | (go_simp; done) | (go_simp; rfl)); intro w40 hw; have hg : wr.grownBy w40 (some go36) := (by rw [hw]; exact HP39.2); have hp_ : Kd.R (Kd.int .u64) 49 w40 w.heap.size (fun k_ => some k_ ≠ (.slice Ao38 t714.length co38 : Value).ownBlock) (.slice (some ⟨go36, 0, none⟩) x5_1.length co37) y732 := (by rw [hw, Ny732.out]; exact HP39.1); clear HP39; have n0_ := Aside0.mk (hp_); have n1_ := Aside0.mk (Kd.R_after (v := (.slice (some ⟨go36, 0, none⟩) x5_1.length co37)) (v1 := (.slice (some ⟨go36, 0, none⟩) x5_1.length co37)) (ok := (fun _ => True)) (by (with_reducible repeat (first | apply Kd.R_alloc | apply Kd.R_drewN | apply Kd.R_drew)); exact Kd.R_mono HO_6.out (fun _ hk => ⟨trivial, hk⟩)) hg (.inl rfl)); have n2_ := Aside0.mk ((by rw [hw]; exact below_set (HB.out) GB36.out : Below w.heap.size w w40)); clear HO_5; clear HO_6; clear HB; have HO_5 := n0_; have HO_6 := n1_; have HB := n2_; clear n0_ n1_ n2_; clear hg hw hp_))
        go_roundg k1
        case measure => have := HK1.out; omega
        case rel => exact ⟨(y732), (0), (wrap64 (x8_1 + 1)), (by first | rfl | (simp; done) | (simp [*]; done)), (by first | rfl | (simp; done) | (simp [*]; done)), H', ⟨by have := HK1.out; omega⟩, ⟨by (with_reducible repeat (first | apply Kd.R_alloc | apply Kd.R_drewN | apply Kd.R_drew)); exact HO_5.out⟩, ⟨by (with_reducible repeat (first | apply Kd.R_alloc | apply Kd.R_drewN | apply Kd.R_drew)); exact Kd.R_mono HO_6.out (fun _ hk => hk.2)⟩, ⟨by repeat (first | (with_reducible first | exact HB.out | apply below_alloc | apply pw_below_drewN | apply below_drew1) | exact HB.out)⟩⟩
      ·rw [if_neg c26] at H
       exact absurd H (by simp)
    ·rw [if_neg c9] at H
     have c9b0 : decide (x8_1 < (x5_1.length : Int)) = false := decide_eq_false c9
     clear c9
     replace H := Option.bind_eq_some_iff.mp H
     obtain ⟨t717, A410, H⟩ := H
     replace H : (some t717) = some r := H
     have A41 := Aside0.mk A410
     clear A410
     obtain rfl := Option.some.inj H
     obtain ⟨Ao42, co42, eo42⟩ := Kd.R_slice HO_5.out
     subst eo42
     go_wp2_with (first | ((with_reducible refine gate_callee (f := 53) rfl ?_); refine goesL_ (some 59) rfl rfl Try.func53 (by kernel_rfl) rfl #[.slice Ao42 x5_1.length co42] rfl (by (try simp only [List.map_toArray, List.map_cons, List.map_nil]); first | done | rfl | (simp only [List.length_drop, List.length_take]; rfl)) ?_; (with_reducible refine (galoisref01_pack.calls k1 _ _ x5_1 t717 _ ?side1 ?side2 A41.out).mono ?_); (case side1 => repeat (first | exact (Kd.R_reads' HO_5.out).2.2 | (with_reducible refine Kd.C_alloc ?_ _) | (with_reducible refine Kd.C_drewN ?_ _) | (with_reducible refine Kd.C_drew ?_))); (case side2 => exact (Kd.R_reads' HO_5.out).2.1); rintro e w43 ⟨rfl, hb⟩; refine ⟨_, rfl, ?_⟩; have n0_ := Aside0.mk (Kd.R_below (by (with_reducible repeat (first | apply Kd.R_alloc | apply Kd.R_drewN | apply Kd.R_drew)); exact HO_5.out) hb); have n1_ := Aside0.mk (Kd.R_below (by (with_reducible repeat (first | apply Kd.R_alloc | apply Kd.R_drewN | apply Kd.R_drew)); exact HO_6.out) hb); have n2_ := Aside0.mk (below_step (by repeat (first | (with_reducible first | exact HB.out | apply below_alloc | apply pw_below_drewN | apply below_drew1) | exact HB.out)) hb); clear HO_5; clear HO_6; clear HB; have HO_5 := n0_; have HO_6 := n1_; have HB := n2_; clear n0_ n1_ n2_; (try clear hb); (try clear hb2); (try clear hk); (try clear hi)))
     go_ret
     exact ⟨by first | rfl | (simp [errW_none, errW_some] <;> rfl) | (simp [*, errW_none, errW_some] <;> rfl), by repeat (first | (with_reducible first | exact HB.out | apply below_alloc | apply pw_below_drewN | apply below_drew1) | exact HB.out)⟩
mutual
def galoislaw01_NaturalSums.j0 : Nat → ByteArray → ByteArray → Bool → Option (Bool)
 | 0, _, _, _ => none
 | k + 1, x0, x1, x21 => if x21 = true then ((galoislaw01_awake.f k).bind fun t735 => (some t735)) else ((natural_Compare.f k x0 x1).bind fun bt736 => ((natural_Add.f k x0 x1).bind fun bt738 => ((natural_Sub.f k x0 x1).bind fun bt740 => ((natural_Mul.f k x0 x1).bind fun bt742 => ((natural_Check.f k x0).bind fun t744 => ((galoisref01_Check.f x0).bind fun t745 => (if t744 = t745 then ((galoislaw01_expected.f x0 x1).bind fun t746 => (if t746 = 0 then ((galoisref01_Compare.f k x0 x1).bind fun t750 => (if t750 < 0 then (galoislaw01_NaturalSums.j1 k x0 x1 bt736.1 bt736.2 bt738.1 bt738.2 bt740.1 bt740.2 bt742.1 bt742.2 3) else (galoislaw01_NaturalSums.j1 k x0 x1 bt736.1 bt736.2 bt738.1 bt738.2 bt740.1 bt740.2 bt742.1 bt742.2 0))) else (if bt736.1 = 0 then (if bt736.2 = t746 then ((galoislaw01_right.f bt738.1 bt738.2 t746 (⟨#[]⟩ : ByteArray)).bind fun t747 => (if t747 = true then ((galoislaw01_right.f bt740.1 bt740.2 t746 (⟨#[]⟩ : ByteArray)).bind fun t748 => (if t748 = true then ((galoislaw01_right.f bt742.1 bt742.2 t746 (⟨#[]⟩ : ByteArray)).bind fun t749 => (some t749)) else (some false))) else (some false))) else (some false)) else (some false)))) else (some false))))))))
def galoislaw01_NaturalSums.j1 : Nat → ByteArray → ByteArray → Int → Int → ByteArray → Int → ByteArray → Int → ByteArray → Int → Int → Option (Bool)
 | 0, _, _, _, _, _, _, _, _, _, _, _ => none
 | k + 1, x0, x1, x5, x6, x7, x8, x9, x10, x11, x12, x14 => (galoisref01_Compare.f k x0 x1).bind fun t751 => (if x5 = t751 then (if x6 = 0 then ((galoisref01_Add.f k x0 x1).bind fun t752 => ((galoislaw01_right.f x7 x8 0 t752).bind fun t753 => (if t753 = true then ((galoisref01_Sub.f k x0 x1).bind fun t754 => ((galoislaw01_right.f x9 x10 x14 t754).bind fun t755 => (if t755 = true then ((galoisref01_Mul.f k x0 x1).bind fun t756 => ((galoislaw01_right.f x11 x12 0 t756).bind fun t757 => (some t757))) else (some false)))) else (some false)))) else (some false)) else (some false))
end
def galoislaw01_NaturalSums.f (k : Nat) (a0 : ByteArray) (a1 : ByteArray) : Option (Bool) := (galoislaw01_awake.f k).bind fun t733 => (if t733 = true then ((galoislaw01_long.f a0 a1 1100).bind fun t734 => (galoislaw01_NaturalSums.j0 k a0 a1 t734)) else (galoislaw01_NaturalSums.j0 k a0 a1 true))
theorem galoislaw01_NaturalSums.mono_l : ∀ k, (∀ y0 y1 y2, LeO (galoislaw01_NaturalSums.j0 k y0 y1 y2) (galoislaw01_NaturalSums.j0 (k + 1) y0 y1 y2)) ∧ (∀ y0 y1 y2 y3 y4 y5 y6 y7 y8 y9 y10, LeO (galoislaw01_NaturalSums.j1 k y0 y1 y2 y3 y4 y5 y6 y7 y8 y9 y10) (galoislaw01_NaturalSums.j1 (k + 1) y0 y1 y2 y3 y4 y5 y6 y7 y8 y9 y10))
 | 0 => ⟨fun _ _ _ r h => by simp [galoislaw01_NaturalSums.j0] at h, fun _ _ _ _ _ _ _ _ _ _ _ r h => by simp [galoislaw01_NaturalSums.j1] at h⟩
 | k + 1 => by
  obtain ⟨ih0, ih1⟩ := galoislaw01_NaturalSums.mono_l k
  refine ⟨?_, ?_⟩
  ·intro y0 y1 y2
   unfold galoislaw01_NaturalSums.j0
   repeat' first
   | (with_reducible exact ih0 _ _ _)
   | (with_reducible exact ih1 _ _ _ _ _ _ _ _ _ _ _)
   | (with_reducible exact galoislaw01_awake.mono _)
   | (with_reducible exact galoisref01_Add.mono _ _ _)
   | (with_reducible exact galoisref01_Compare.mono _ _ _)
   | (with_reducible exact galoisref01_Mul.mono _ _ _)
   | (with_reducible exact galoisref01_Sub.mono _ _ _)
   | (with_reducible exact natural_Add.mono _ _ _)
   | (with_reducible exact natural_Check.mono _ _)
   | (with_reducible exact natural_Compare.mono _ _ _)
   | (with_reducible exact natural_Mul.mono _ _ _)
   | (with_reducible exact natural_Sub.mono _ _ _)
   | (with_reducible exact LeO.refl _)
   | (with_reducible exact LeO.none _)
   | (with_reducible refine LeO.ite ?_ ?_)
   | (with_reducible refine LeO.bind ?_ (fun _ => ?_))
   | exact ih0 _ _ _
   | exact ih1 _ _ _ _ _ _ _ _ _ _ _
   | exact galoislaw01_awake.mono _
   | exact galoisref01_Add.mono _ _ _
   | exact galoisref01_Compare.mono _ _ _
   | exact galoisref01_Mul.mono _ _ _
   | exact galoisref01_Sub.mono _ _ _
   | exact natural_Add.mono _ _ _
   | exact natural_Check.mono _ _
   | exact natural_Compare.mono _ _ _
   | exact natural_Mul.mono _ _ _
   | exact natural_Sub.mono _ _ _
   | exact LeO.none _
   | refine LeO.ite ?_ ?_
   | refine LeO.bind ?_ (fun _ => ?_)
  ·intro y0 y1 y2 y3 y4 y5 y6 y7 y8 y9 y10
   unfold galoislaw01_NaturalSums.j1
   repeat' first
   | (with_reducible exact ih0 _ _ _)
   | (with_reducible exact ih1 _ _ _ _ _ _ _ _ _ _ _)
   | (with_reducible exact galoislaw01_awake.mono _)
   | (with_reducible exact galoisref01_Add.mono _ _ _)
   | (with_reducible exact galoisref01_Compare.mono _ _ _)
   | (with_reducible exact galoisref01_Mul.mono _ _ _)
   | (with_reducible exact galoisref01_Sub.mono _ _ _)
   | (with_reducible exact natural_Add.mono _ _ _)
   | (with_reducible exact natural_Check.mono _ _)
   | (with_reducible exact natural_Compare.mono _ _ _)
   | (with_reducible exact natural_Mul.mono _ _ _)
   | (with_reducible exact natural_Sub.mono _ _ _)
   | (with_reducible exact LeO.refl _)
   | (with_reducible exact LeO.none _)
   | (with_reducible refine LeO.ite ?_ ?_)
   | (with_reducible refine LeO.bind ?_ (fun _ => ?_))
   | exact ih0 _ _ _
   | exact ih1 _ _ _ _ _ _ _ _ _ _ _
   | exact galoislaw01_awake.mono _
   | exact galoisref01_Add.mono _ _ _
   | exact galoisref01_Compare.mono _ _ _
   | exact galoisref01_Mul.mono _ _ _
   | exact galoisref01_Sub.mono _ _ _
   | exact natural_Add.mono _ _ _
   | exact natural_Check.mono _ _
   | exact natural_Compare.mono _ _ _
   | exact natural_Mul.mono _ _ _
   | exact natural_Sub.mono _ _ _
   | exact LeO.none _
   | refine LeO.ite ?_ ?_
   | refine LeO.bind ?_ (fun _ => ?_)
theorem galoislaw01_NaturalSums.mono : ∀ a0 a1 k, LeO (galoislaw01_NaturalSums.f k a0 a1) (galoislaw01_NaturalSums.f (k + 1) a0 a1) := by
 intro a0 a1 k
 obtain ⟨ih0, ih1⟩ := galoislaw01_NaturalSums.mono_l k
 unfold galoislaw01_NaturalSums.f
 repeat' first
   | (with_reducible exact ih0 _ _ _)
   | (with_reducible exact ih1 _ _ _ _ _ _ _ _ _ _ _)
   | (with_reducible exact galoislaw01_awake.mono _)
   | (with_reducible exact galoisref01_Add.mono _ _ _)
   | (with_reducible exact galoisref01_Compare.mono _ _ _)
   | (with_reducible exact galoisref01_Mul.mono _ _ _)
   | (with_reducible exact galoisref01_Sub.mono _ _ _)
   | (with_reducible exact natural_Add.mono _ _ _)
   | (with_reducible exact natural_Check.mono _ _)
   | (with_reducible exact natural_Compare.mono _ _ _)
   | (with_reducible exact natural_Mul.mono _ _ _)
   | (with_reducible exact natural_Sub.mono _ _ _)
   | (with_reducible exact LeO.refl _)
   | (with_reducible exact LeO.none _)
   | (with_reducible refine LeO.ite ?_ ?_)
   | (with_reducible refine LeO.bind ?_ (fun _ => ?_))
   | exact ih0 _ _ _
   | exact ih1 _ _ _ _ _ _ _ _ _ _ _
   | exact galoislaw01_awake.mono _
   | exact galoisref01_Add.mono _ _ _
   | exact galoisref01_Compare.mono _ _ _
   | exact galoisref01_Mul.mono _ _ _
   | exact galoisref01_Sub.mono _ _ _
   | exact natural_Add.mono _ _ _
   | exact natural_Check.mono _ _
   | exact natural_Compare.mono _ _ _
   | exact natural_Mul.mono _ _ _
   | exact natural_Sub.mono _ _ _
   | exact LeO.none _
   | refine LeO.ite ?_ ?_
   | refine LeO.bind ?_ (fun _ => ?_)
set_option maxHeartbeats 8000000 in
set_option maxRecDepth 100000 in
theorem galoislaw01_NaturalSums.calls (k : Nat) (a0 : ByteArray) (a1 : ByteArray) (r : Bool) (w : World) (h : galoislaw01_NaturalSums.f k a0 a1 = some r) :
  Calls Try.prog 9 #[.string a0, .string a1] w fun e w' => e = .returned (.bool r) ∧ Below w.heap.size w w' := by
 have HB := Aside0.mk (Below.refl w.heap.size w)
 have H : ((galoislaw01_awake.f k).bind fun t733 => (if t733 = true then ((galoislaw01_long.f a0 a1 1100).bind fun t734 => (galoislaw01_NaturalSums.j0 k a0 a1 t734)) else (galoislaw01_NaturalSums.j0 k a0 a1 true))) = some r := h
 clear h
 have HC3 := Aside0.mk H
 clear H
 go_enter Try.func9, Try.ntmps9
 go_upto_region 1 with (fail)
 go_cut [21] (fun v21 wc => ∃ (kq : Nat) (x21_2 : Bool), v21 = .bool x21_2 ∧ Aside0 (galoislaw01_NaturalSums.j0 kq a0 a1 x21_2 = some r) ∧ Aside0 (kq ≤ k) ∧ Aside0 (Below w.heap.size w wc))
 case first =>
  have H := HC3.out
  clear HC3
  replace H := Option.bind_eq_some_iff.mp H
  obtain ⟨t733, A40, H⟩ := H
  replace H : (if t733 = true then ((galoislaw01_long.f a0 a1 1100).bind fun t734 => (galoislaw01_NaturalSums.j0 k a0 a1 t734)) else (galoislaw01_NaturalSums.j0 k a0 a1 true)) = some r := H
  have A4 := Aside0.mk A40
  clear A40
  by_cases c5 : t733 = true
  ·subst c5
   have H1 : ((galoislaw01_long.f a0 a1 1100).bind fun t734 => (galoislaw01_NaturalSums.j0 k a0 a1 t734)) = some r := by rw [if_pos rfl] at H; exact H
   clear H
   have H := H1
   clear H1
   replace H := Option.bind_eq_some_iff.mp H
   obtain ⟨t734, A60, H⟩ := H
   replace H : (galoislaw01_NaturalSums.j0 k a0 a1 t734) = some r := H
   have A6 := Aside0.mk A60
   clear A60
   have H' := Aside0.mk H
   clear H
   go_wp2_with (first | ((with_reducible refine gate_callee (f := 12) rfl ?_); refine goesL_ (some 15) rfl rfl Try.func12 (by kernel_rfl) rfl #[] rfl (by (try simp only [List.map_toArray, List.map_cons, List.map_nil]); first | done | rfl | (simp only [List.length_drop, List.length_take]; rfl)) ?_; (with_reducible refine (galoislaw01_awake.calls k  true _ A4.out).mono ?_); rintro e w7 ⟨rfl, hb⟩; refine ⟨_, rfl, ?_⟩; have n0_ := Aside0.mk (below_step (by repeat (first | (with_reducible first | exact HB.out | apply below_alloc | apply pw_below_drewN | apply below_drew1) | exact HB.out)) hb); clear HB; have HB := n0_; clear n0_; (try clear hb); (try clear hb2); (try clear hk); (try clear hi)) | (go_at_call 13; (with_reducible refine (galoislaw01_long.calls a0 a1 1100 t734 _ A6.out).mono ?_); rintro e w' ⟨rfl, ⟨nd, rfl⟩⟩))
   go_meet
   case rel => exact ⟨_, (t734), (by first | rfl | (simp; done) | (simp [*]; done)), H', ⟨by first | omega | exact Nat.le_refl _⟩, ⟨by repeat (first | (with_reducible first | exact HB.out | apply below_alloc | apply pw_below_drewN | apply below_drew1) | exact HB.out)⟩⟩
  ·replace c5 := Bool.eq_false_iff.mpr c5
   subst c5
   have H1 : (galoislaw01_NaturalSums.j0 k a0 a1 true) = some r := by rw [if_neg (show ¬ (false = true) by decide)] at H; exact H
   clear H
   have H := H1
   clear H1
   have H' := Aside0.mk H
   clear H
   go_wp2_with (first | ((with_reducible refine gate_callee (f := 12) rfl ?_); refine goesL_ (some 15) rfl rfl Try.func12 (by kernel_rfl) rfl #[] rfl (by (try simp only [List.map_toArray, List.map_cons, List.map_nil]); first | done | rfl | (simp only [List.length_drop, List.length_take]; rfl)) ?_; (with_reducible refine (galoislaw01_awake.calls k  false _ A4.out).mono ?_); rintro e w8 ⟨rfl, hb⟩; refine ⟨_, rfl, ?_⟩; have n0_ := Aside0.mk (below_step (by repeat (first | (with_reducible first | exact HB.out | apply below_alloc | apply pw_below_drewN | apply below_drew1) | exact HB.out)) hb); clear HB; have HB := n0_; clear n0_; (try clear hb); (try clear hb2); (try clear hk); (try clear hi)))
   go_meet
   case rel => exact ⟨_, (true), (by first | rfl | (simp; done) | (simp [*]; done)), H', ⟨by first | omega | exact Nat.le_refl _⟩, ⟨by repeat (first | (with_reducible first | exact HB.out | apply below_alloc | apply pw_below_drewN | apply below_drew1) | exact HB.out)⟩⟩
 case rest =>
  clear HC3
  try clear c1
  try clear p2
  try clear c5
  obtain ⟨kq, x21_2, rfl, HA, HJ2, HB⟩ := hcut
  cases kq with
  | zero => exact absurd HA.out (by simp [galoislaw01_NaturalSums.j0])
  | succ kj2 =>
   have H := HA.out
   clear HA
   simp only [galoislaw01_NaturalSums.j0] at H
   by_cases c9 : x21_2 = true
   ·subst c9
    have H1 : ((galoislaw01_awake.f kj2).bind fun t735 => (some t735)) = some r := by rw [if_pos rfl] at H; exact H
    clear H
    have H := H1
    clear H1
    replace H := Option.bind_eq_some_iff.mp H
    obtain ⟨t735, A100, H⟩ := H
    replace H : (some t735) = some r := H
    have A10 := Aside0.mk A100
    clear A100
    obtain rfl := Option.some.inj H
    go_wp2_with (first | ((with_reducible refine gate_callee (f := 12) rfl ?_); refine goesL_ (some 22) rfl rfl Try.func12 (by kernel_rfl) rfl #[] rfl (by (try simp only [List.map_toArray, List.map_cons, List.map_nil]); first | done | rfl | (simp only [List.length_drop, List.length_take]; rfl)) ?_; (with_reducible refine (galoislaw01_awake.calls kj2  t735 _ A10.out).mono ?_); rintro e w11 ⟨rfl, hb⟩; refine ⟨_, rfl, ?_⟩; have n0_ := Aside0.mk (below_step (by repeat (first | (with_reducible first | exact HB.out | apply below_alloc | apply pw_below_drewN | apply below_drew1) | exact HB.out)) hb); clear HB; have HB := n0_; clear n0_; (try clear hb); (try clear hb2); (try clear hk); (try clear hi)))
    go_ret
    exact ⟨by first | rfl | (simp [errW_none, errW_some] <;> rfl) | (simp [*, errW_none, errW_some] <;> rfl), by repeat (first | (with_reducible first | exact HB.out | apply below_alloc | apply pw_below_drewN | apply below_drew1) | exact HB.out)⟩
   ·replace c9 := Bool.eq_false_iff.mpr c9
    subst c9
    have H1 : ((natural_Compare.f kj2 a0 a1).bind fun bt736 => ((natural_Add.f kj2 a0 a1).bind fun bt738 => ((natural_Sub.f kj2 a0 a1).bind fun bt740 => ((natural_Mul.f kj2 a0 a1).bind fun bt742 => ((natural_Check.f kj2 a0).bind fun t744 => ((galoisref01_Check.f a0).bind fun t745 => (if t744 = t745 then ((galoislaw01_expected.f a0 a1).bind fun t746 => (if t746 = 0 then ((galoisref01_Compare.f kj2 a0 a1).bind fun t750 => (if t750 < 0 then (galoislaw01_NaturalSums.j1 kj2 a0 a1 bt736.1 bt736.2 bt738.1 bt738.2 bt740.1 bt740.2 bt742.1 bt742.2 3) else (galoislaw01_NaturalSums.j1 kj2 a0 a1 bt736.1 bt736.2 bt738.1 bt738.2 bt740.1 bt740.2 bt742.1 bt742.2 0))) else (if bt736.1 = 0 then (if bt736.2 = t746 then ((galoislaw01_right.f bt738.1 bt738.2 t746 (⟨#[]⟩ : ByteArray)).bind fun t747 => (if t747 = true then ((galoislaw01_right.f bt740.1 bt740.2 t746 (⟨#[]⟩ : ByteArray)).bind fun t748 => (if t748 = true then ((galoislaw01_right.f bt742.1 bt742.2 t746 (⟨#[]⟩ : ByteArray)).bind fun t749 => (some t749)) else (some false))) else (some false))) else (some false)) else (some false)))) else (some false)))))))) = some r := by rw [if_neg (show ¬ (false = true) by decide)] at H; exact H
    clear H
    have H := H1
    clear H1
    replace H := Option.bind_eq_some_iff.mp H
    obtain ⟨⟨t736, t737⟩, A120, H⟩ := H
    replace H : ((natural_Add.f kj2 a0 a1).bind fun bt738 => ((natural_Sub.f kj2 a0 a1).bind fun bt740 => ((natural_Mul.f kj2 a0 a1).bind fun bt742 => ((natural_Check.f kj2 a0).bind fun t744 => ((galoisref01_Check.f a0).bind fun t745 => (if t744 = t745 then ((galoislaw01_expected.f a0 a1).bind fun t746 => (if t746 = 0 then ((galoisref01_Compare.f kj2 a0 a1).bind fun t750 => (if t750 < 0 then (galoislaw01_NaturalSums.j1 kj2 a0 a1 t736 t737 bt738.1 bt738.2 bt740.1 bt740.2 bt742.1 bt742.2 3) else (galoislaw01_NaturalSums.j1 kj2 a0 a1 t736 t737 bt738.1 bt738.2 bt740.1 bt740.2 bt742.1 bt742.2 0))) else (if t736 = 0 then (if t737 = t746 then ((galoislaw01_right.f bt738.1 bt738.2 t746 (⟨#[]⟩ : ByteArray)).bind fun t747 => (if t747 = true then ((galoislaw01_right.f bt740.1 bt740.2 t746 (⟨#[]⟩ : ByteArray)).bind fun t748 => (if t748 = true then ((galoislaw01_right.f bt742.1 bt742.2 t746 (⟨#[]⟩ : ByteArray)).bind fun t749 => (some t749)) else (some false))) else (some false))) else (some false)) else (some false)))) else (some false))))))) = some r := H
    have A12 := Aside0.mk A120
    clear A120
    replace H := Option.bind_eq_some_iff.mp H
    obtain ⟨⟨t738, t739⟩, A130, H⟩ := H
    replace H : ((natural_Sub.f kj2 a0 a1).bind fun bt740 => ((natural_Mul.f kj2 a0 a1).bind fun bt742 => ((natural_Check.f kj2 a0).bind fun t744 => ((galoisref01_Check.f a0).bind fun t745 => (if t744 = t745 then ((galoislaw01_expected.f a0 a1).bind fun t746 => (if t746 = 0 then ((galoisref01_Compare.f kj2 a0 a1).bind fun t750 => (if t750 < 0 then (galoislaw01_NaturalSums.j1 kj2 a0 a1 t736 t737 t738 t739 bt740.1 bt740.2 bt742.1 bt742.2 3) else (galoislaw01_NaturalSums.j1 kj2 a0 a1 t736 t737 t738 t739 bt740.1 bt740.2 bt742.1 bt742.2 0))) else (if t736 = 0 then (if t737 = t746 then ((galoislaw01_right.f t738 t739 t746 (⟨#[]⟩ : ByteArray)).bind fun t747 => (if t747 = true then ((galoislaw01_right.f bt740.1 bt740.2 t746 (⟨#[]⟩ : ByteArray)).bind fun t748 => (if t748 = true then ((galoislaw01_right.f bt742.1 bt742.2 t746 (⟨#[]⟩ : ByteArray)).bind fun t749 => (some t749)) else (some false))) else (some false))) else (some false)) else (some false)))) else (some false)))))) = some r := H
    have A13 := Aside0.mk A130
    clear A130
    replace H := Option.bind_eq_some_iff.mp H
    obtain ⟨⟨t740, t741⟩, A140, H⟩ := H
    replace H : ((natural_Mul.f kj2 a0 a1).bind fun bt742 => ((natural_Check.f kj2 a0).bind fun t744 => ((galoisref01_Check.f a0).bind fun t745 => (if t744 = t745 then ((galoislaw01_expected.f a0 a1).bind fun t746 => (if t746 = 0 then ((galoisref01_Compare.f kj2 a0 a1).bind fun t750 => (if t750 < 0 then (galoislaw01_NaturalSums.j1 kj2 a0 a1 t736 t737 t738 t739 t740 t741 bt742.1 bt742.2 3) else (galoislaw01_NaturalSums.j1 kj2 a0 a1 t736 t737 t738 t739 t740 t741 bt742.1 bt742.2 0))) else (if t736 = 0 then (if t737 = t746 then ((galoislaw01_right.f t738 t739 t746 (⟨#[]⟩ : ByteArray)).bind fun t747 => (if t747 = true then ((galoislaw01_right.f t740 t741 t746 (⟨#[]⟩ : ByteArray)).bind fun t748 => (if t748 = true then ((galoislaw01_right.f bt742.1 bt742.2 t746 (⟨#[]⟩ : ByteArray)).bind fun t749 => (some t749)) else (some false))) else (some false))) else (some false)) else (some false)))) else (some false))))) = some r := H
    have A14 := Aside0.mk A140
    clear A140
    replace H := Option.bind_eq_some_iff.mp H
    obtain ⟨⟨t742, t743⟩, A150, H⟩ := H
    replace H : ((natural_Check.f kj2 a0).bind fun t744 => ((galoisref01_Check.f a0).bind fun t745 => (if t744 = t745 then ((galoislaw01_expected.f a0 a1).bind fun t746 => (if t746 = 0 then ((galoisref01_Compare.f kj2 a0 a1).bind fun t750 => (if t750 < 0 then (galoislaw01_NaturalSums.j1 kj2 a0 a1 t736 t737 t738 t739 t740 t741 t742 t743 3) else (galoislaw01_NaturalSums.j1 kj2 a0 a1 t736 t737 t738 t739 t740 t741 t742 t743 0))) else (if t736 = 0 then (if t737 = t746 then ((galoislaw01_right.f t738 t739 t746 (⟨#[]⟩ : ByteArray)).bind fun t747 => (if t747 = true then ((galoislaw01_right.f t740 t741 t746 (⟨#[]⟩ : ByteArray)).bind fun t748 => (if t748 = true then ((galoislaw01_right.f t742 t743 t746 (⟨#[]⟩ : ByteArray)).bind fun t749 => (some t749)) else (some false))) else (some false))) else (some false)) else (some false)))) else (some false)))) = some r := H
    have A15 := Aside0.mk A150
    clear A150
    replace H := Option.bind_eq_some_iff.mp H
    obtain ⟨t744, A160, H⟩ := H
    replace H : ((galoisref01_Check.f a0).bind fun t745 => (if t744 = t745 then ((galoislaw01_expected.f a0 a1).bind fun t746 => (if t746 = 0 then ((galoisref01_Compare.f kj2 a0 a1).bind fun t750 => (if t750 < 0 then (galoislaw01_NaturalSums.j1 kj2 a0 a1 t736 t737 t738 t739 t740 t741 t742 t743 3) else (galoislaw01_NaturalSums.j1 kj2 a0 a1 t736 t737 t738 t739 t740 t741 t742 t743 0))) else (if t736 = 0 then (if t737 = t746 then ((galoislaw01_right.f t738 t739 t746 (⟨#[]⟩ : ByteArray)).bind fun t747 => (if t747 = true then ((galoislaw01_right.f t740 t741 t746 (⟨#[]⟩ : ByteArray)).bind fun t748 => (if t748 = true then ((galoislaw01_right.f t742 t743 t746 (⟨#[]⟩ : ByteArray)).bind fun t749 => (some t749)) else (some false))) else (some false))) else (some false)) else (some false)))) else (some false))) = some r := H
    have A16 := Aside0.mk A160
    clear A160
    replace H := Option.bind_eq_some_iff.mp H
    obtain ⟨t745, A170, H⟩ := H
    replace H : (if t744 = t745 then ((galoislaw01_expected.f a0 a1).bind fun t746 => (if t746 = 0 then ((galoisref01_Compare.f kj2 a0 a1).bind fun t750 => (if t750 < 0 then (galoislaw01_NaturalSums.j1 kj2 a0 a1 t736 t737 t738 t739 t740 t741 t742 t743 3) else (galoislaw01_NaturalSums.j1 kj2 a0 a1 t736 t737 t738 t739 t740 t741 t742 t743 0))) else (if t736 = 0 then (if t737 = t746 then ((galoislaw01_right.f t738 t739 t746 (⟨#[]⟩ : ByteArray)).bind fun t747 => (if t747 = true then ((galoislaw01_right.f t740 t741 t746 (⟨#[]⟩ : ByteArray)).bind fun t748 => (if t748 = true then ((galoislaw01_right.f t742 t743 t746 (⟨#[]⟩ : ByteArray)).bind fun t749 => (some t749)) else (some false))) else (some false))) else (some false)) else (some false)))) else (some false)) = some r := H
    have A17 := Aside0.mk A170
    clear A170
    by_cases c18 : t744 = t745
    ·rw [if_pos c18] at H
     have c18b0 : (t744 == t745) = true := beq_iff_eq.mpr c18
     have c18b1 : (t744 != t745) = false := bne_eq_false_iff_eq.mpr c18
     clear c18
     replace H := Option.bind_eq_some_iff.mp H
     obtain ⟨t746, A190, H⟩ := H
     replace H : (if t746 = 0 then ((galoisref01_Compare.f kj2 a0 a1).bind fun t750 => (if t750 < 0 then (galoislaw01_NaturalSums.j1 kj2 a0 a1 t736 t737 t738 t739 t740 t741 t742 t743 3) else (galoislaw01_NaturalSums.j1 kj2 a0 a1 t736 t737 t738 t739 t740 t741 t742 t743 0))) else (if t736 = 0 then (if t737 = t746 then ((galoislaw01_right.f t738 t739 t746 (⟨#[]⟩ : ByteArray)).bind fun t747 => (if t747 = true then ((galoislaw01_right.f t740 t741 t746 (⟨#[]⟩ : ByteArray)).bind fun t748 => (if t748 = true then ((galoislaw01_right.f t742 t743 t746 (⟨#[]⟩ : ByteArray)).bind fun t749 => (some t749)) else (some false))) else (some false))) else (some false)) else (some false))) = some r := H
     have A19 := Aside0.mk A190
     clear A190
     by_cases c20 : t746 = 0
     ·rw [if_pos c20] at H
      have c20b0 : (t746 == 0) = true := beq_iff_eq.mpr c20
      have c20b1 : (t746 != 0) = false := bne_eq_false_iff_eq.mpr c20
      clear c20
      replace H := Option.bind_eq_some_iff.mp H
      obtain ⟨t750, A210, H⟩ := H
      replace H : (if t750 < 0 then (galoislaw01_NaturalSums.j1 kj2 a0 a1 t736 t737 t738 t739 t740 t741 t742 t743 3) else (galoislaw01_NaturalSums.j1 kj2 a0 a1 t736 t737 t738 t739 t740 t741 t742 t743 0)) = some r := H
      have A21 := Aside0.mk A210
      clear A210
      have HC22 := Aside0.mk H
      clear H
      go_upto_if 85 with (first | ((with_reducible refine gate_callee (f := 36) rfl ?_); refine goesL_ (some 26) rfl rfl Try.func36 (by kernel_rfl) rfl #[.string a0, .string a1] rfl (by (try simp only [List.map_toArray, List.map_cons, List.map_nil]); first | done | rfl | (simp only [List.length_drop, List.length_take]; rfl)) ?_; (with_reducible refine (natural_Compare.calls kj2 a0 a1 t736 t737 _ A12.out).mono ?_); rintro e w23 ⟨rfl, hb⟩; refine ⟨_, rfl, ?_⟩; have n0_ := Aside0.mk (below_step (by repeat (first | (with_reducible first | exact HB.out | apply below_alloc | apply pw_below_drewN | apply below_drew1) | exact HB.out)) hb); clear HB; have HB := n0_; clear n0_; (try clear hb); (try clear hb2); (try clear hk); (try clear hi)) | ((with_reducible refine gate_callee (f := 35) rfl ?_); refine goesL_ (some 32) rfl rfl Try.func35 (by kernel_rfl) rfl #[.string a0, .string a1] rfl (by (try simp only [List.map_toArray, List.map_cons, List.map_nil]); first | done | rfl | (simp only [List.length_drop, List.length_take]; rfl)) ?_; (with_reducible refine (natural_Add.calls kj2 a0 a1 t738 t739 _ A13.out).mono ?_); rintro e w24 ⟨rfl, hb⟩; refine ⟨_, rfl, ?_⟩; have n0_ := Aside0.mk (below_step (by repeat (first | (with_reducible first | exact HB.out | apply below_alloc | apply pw_below_drewN | apply below_drew1) | exact HB.out)) hb); clear HB; have HB := n0_; clear n0_; (try clear hb); (try clear hb2); (try clear hk); (try clear hi)) | ((with_reducible refine gate_callee (f := 37) rfl ?_); refine goesL_ (some 38) rfl rfl Try.func37 (by kernel_rfl) rfl #[.string a0, .string a1] rfl (by (try simp only [List.map_toArray, List.map_cons, List.map_nil]); first | done | rfl | (simp only [List.length_drop, List.length_take]; rfl)) ?_; (with_reducible refine (natural_Sub.calls kj2 a0 a1 t740 t741 _ A14.out).mono ?_); rintro e w25 ⟨rfl, hb⟩; refine ⟨_, rfl, ?_⟩; have n0_ := Aside0.mk (below_step (by repeat (first | (with_reducible first | exact HB.out | apply below_alloc | apply pw_below_drewN | apply below_drew1) | exact HB.out)) hb); clear HB; have HB := n0_; clear n0_; (try clear hb); (try clear hb2); (try clear hk); (try clear hi)) | ((with_reducible refine gate_callee (f := 31) rfl ?_); refine goesL_ (some 44) rfl rfl Try.func31 (by kernel_rfl) rfl #[.string a0, .string a1] rfl (by (try simp only [List.map_toArray, List.map_cons, List.map_nil]); first | done | rfl | (simp only [List.length_drop, List.length_take]; rfl)) ?_; (with_reducible refine (natural_Mul.calls kj2 a0 a1 t742 t743 _ A15.out).mono ?_); rintro e w26 ⟨rfl, hb⟩; refine ⟨_, rfl, ?_⟩; have n0_ := Aside0.mk (below_step (by repeat (first | (with_reducible first | exact HB.out | apply below_alloc | apply pw_below_drewN | apply below_drew1) | exact HB.out)) hb); clear HB; have HB := n0_; clear n0_; (try clear hb); (try clear hb2); (try clear hk); (try clear hi)) | ((with_reducible refine gate_callee (f := 38) rfl ?_); refine goesL_ (some 48) rfl rfl Try.func38 (by kernel_rfl) rfl #[.string a0] rfl (by (try simp only [List.map_toArray, List.map_cons, List.map_nil]); first | done | rfl | (simp only [List.length_drop, List.length_take]; rfl)) ?_; (with_reducible refine (natural_Check.calls kj2 a0 t744 _ A16.out).mono ?_); rintro e w' ⟨rfl, ⟨nd, rfl⟩⟩; refine ⟨_, rfl, ?_⟩) | ((with_reducible refine gate_callee (f := 24) rfl ?_); refine goesL_ (some 50) rfl rfl Try.func24 (by kernel_rfl) rfl #[.string a0] rfl (by (try simp only [List.map_toArray, List.map_cons, List.map_nil]); first | done | rfl | (simp only [List.length_drop, List.length_take]; rfl)) ?_; (with_reducible refine (galoisref01_Check.calls a0 t745 _ A17.out).mono ?_); rintro e w' ⟨rfl, ⟨nd, rfl⟩⟩; refine ⟨_, rfl, ?_⟩) | ((with_reducible refine gate_callee (f := 16) rfl ?_); refine goesL_ (some 54) rfl rfl Try.func16 (by kernel_rfl) rfl #[.string a0, .string a1] rfl (by (try simp only [List.map_toArray, List.map_cons, List.map_nil]); first | done | rfl | (simp only [List.length_drop, List.length_take]; rfl)) ?_; (with_reducible refine (galoislaw01_expected.calls a0 a1 t746 _ A19.out).mono ?_); rintro e w' ⟨rfl, ⟨nd, rfl⟩⟩; refine ⟨_, rfl, ?_⟩) | ((with_reducible refine gate_callee (f := 39) rfl ?_); refine goesL_ (some 84) rfl rfl Try.func39 (by kernel_rfl) rfl #[.string a0, .string a1] rfl (by (try simp only [List.map_toArray, List.map_cons, List.map_nil]); first | done | rfl | (simp only [List.length_drop, List.length_take]; rfl)) ?_; (with_reducible refine (galoisref01_Compare.calls kj2 a0 a1 t750 _ A21.out).mono ?_); rintro e w' ⟨rfl, ⟨nd, rfl⟩⟩; refine ⟨_, rfl, ?_⟩))
      (try simp only [Act.put, List.setIfInBounds_toArray, List.set_cons_zero, List.set_cons_succ])
      go_cut [14] (fun v14 wc => ∃ (kq : Nat) (x14_21 : Int), v14 = .int .i64 x14_21 ∧ Aside0 (galoislaw01_NaturalSums.j1 kq a0 a1 t736 t737 t738 t739 t740 t741 t742 t743 x14_21 = some r) ∧ Aside0 (kq ≤ kj2) ∧ Aside0 (Below w.heap.size w wc))
      case first =>
       have H := HC22.out
       clear HC22
       by_cases c27 : t750 < 0
       ·rw [if_pos c27] at H
        have c27b0 : decide (t750 < 0) = true := decide_eq_true c27
        clear c27
        (first | rw [c27b0] | rw [c27b1] | (simp only [i64_w, i32_w]; rw [c27b0]) | skip)
        have H' := Aside0.mk H
        clear H
        go_wp2
        go_meet
        case rel => exact ⟨_, (3), (by first | rfl | (simp; done) | (simp [*]; done)), H', ⟨by have := HJ2.out; first | omega | exact Nat.le_refl _⟩, ⟨by repeat (first | (with_reducible first | exact HB.out | apply below_alloc | apply pw_below_drewN | apply below_drew1) | exact HB.out)⟩⟩
       ·rw [if_neg c27] at H
        have c27b0 : decide (t750 < 0) = false := decide_eq_false c27
        clear c27
        (first | rw [c27b0] | rw [c27b1] | (simp only [i64_w, i32_w]; rw [c27b0]) | skip)
        have H' := Aside0.mk H
        clear H
        go_wp2
        go_meet
        case rel => exact ⟨_, (0), (by first | rfl | (simp; done) | (simp [*]; done)), H', ⟨by have := HJ2.out; first | omega | exact Nat.le_refl _⟩, ⟨by repeat (first | (with_reducible first | exact HB.out | apply below_alloc | apply pw_below_drewN | apply below_drew1) | exact HB.out)⟩⟩
      case rest =>
       clear HC22
       try clear c1
       try clear c2
       try clear p2
       try clear c3
       try clear c5
       try clear c9
       try clear c12
       try clear c16
       try clear c18
       try clear c18b0
       try clear c18b1
       try clear c20
       try clear c20b0
       try clear c20b1
       try clear c24
       try clear c27
       try clear c27b0
       try clear p2
       obtain ⟨kq, x14_21, rfl, HA, HJ21, HB⟩ := hcut
       cases kq with
       | zero => exact absurd HA.out (by simp [galoislaw01_NaturalSums.j1])
       | succ kj21 =>
        have H := HA.out
        clear HA
        simp only [galoislaw01_NaturalSums.j1] at H
        replace H := Option.bind_eq_some_iff.mp H
        obtain ⟨t751, A280, H⟩ := H
        replace H : (if t736 = t751 then (if t737 = 0 then ((galoisref01_Add.f kj21 a0 a1).bind fun t752 => ((galoislaw01_right.f t738 t739 0 t752).bind fun t753 => (if t753 = true then ((galoisref01_Sub.f kj21 a0 a1).bind fun t754 => ((galoislaw01_right.f t740 t741 x14_21 t754).bind fun t755 => (if t755 = true then ((galoisref01_Mul.f kj21 a0 a1).bind fun t756 => ((galoislaw01_right.f t742 t743 0 t756).bind fun t757 => (some t757))) else (some false)))) else (some false)))) else (some false)) else (some false)) = some r := H
        have A28 := Aside0.mk A280
        clear A280
        by_cases c29 : t736 = t751
        ·rw [if_pos c29] at H
         have c29b0 : (t736 == t751) = true := beq_iff_eq.mpr c29
         have c29b1 : (t736 != t751) = false := bne_eq_false_iff_eq.mpr c29
         clear c29
         by_cases c30 : t737 = 0
         ·rw [if_pos c30] at H
          have c30b0 : (t737 == 0) = true := beq_iff_eq.mpr c30
          have c30b1 : (t737 != 0) = false := bne_eq_false_iff_eq.mpr c30
          clear c30
          replace H := Option.bind_eq_some_iff.mp H
          obtain ⟨t752, A310, H⟩ := H
          replace H : ((galoislaw01_right.f t738 t739 0 t752).bind fun t753 => (if t753 = true then ((galoisref01_Sub.f kj21 a0 a1).bind fun t754 => ((galoislaw01_right.f t740 t741 x14_21 t754).bind fun t755 => (if t755 = true then ((galoisref01_Mul.f kj21 a0 a1).bind fun t756 => ((galoislaw01_right.f t742 t743 0 t756).bind fun t757 => (some t757))) else (some false)))) else (some false))) = some r := H
          have A31 := Aside0.mk A310
          clear A310
          replace H := Option.bind_eq_some_iff.mp H
          obtain ⟨t753, A320, H⟩ := H
          replace H : (if t753 = true then ((galoisref01_Sub.f kj21 a0 a1).bind fun t754 => ((galoislaw01_right.f t740 t741 x14_21 t754).bind fun t755 => (if t755 = true then ((galoisref01_Mul.f kj21 a0 a1).bind fun t756 => ((galoislaw01_right.f t742 t743 0 t756).bind fun t757 => (some t757))) else (some false)))) else (some false)) = some r := H
          have A32 := Aside0.mk A320
          clear A320
          by_cases c33 : t753 = true
          ·subst c33
           have H1 : ((galoisref01_Sub.f kj21 a0 a1).bind fun t754 => ((galoislaw01_right.f t740 t741 x14_21 t754).bind fun t755 => (if t755 = true then ((galoisref01_Mul.f kj21 a0 a1).bind fun t756 => ((galoislaw01_right.f t742 t743 0 t756).bind fun t757 => (some t757))) else (some false)))) = some r := by rw [if_pos rfl] at H; exact H
           clear H
           have H := H1
           clear H1
           replace H := Option.bind_eq_some_iff.mp H
           obtain ⟨t754, A340, H⟩ := H
           replace H : ((galoislaw01_right.f t740 t741 x14_21 t754).bind fun t755 => (if t755 = true then ((galoisref01_Mul.f kj21 a0 a1).bind fun t756 => ((galoislaw01_right.f t742 t743 0 t756).bind fun t757 => (some t757))) else (some false))) = some r := H
           have A34 := Aside0.mk A340
           clear A340
           replace H := Option.bind_eq_some_iff.mp H
           obtain ⟨t755, A350, H⟩ := H
           replace H : (if t755 = true then ((galoisref01_Mul.f kj21 a0 a1).bind fun t756 => ((galoislaw01_right.f t742 t743 0 t756).bind fun t757 => (some t757))) else (some false)) = some r := H
           have A35 := Aside0.mk A350
           clear A350
           by_cases c36 : t755 = true
           ·subst c36
            have H1 : ((galoisref01_Mul.f kj21 a0 a1).bind fun t756 => ((galoislaw01_right.f t742 t743 0 t756).bind fun t757 => (some t757))) = some r := by rw [if_pos rfl] at H; exact H
            clear H
            have H := H1
            clear H1
            replace H := Option.bind_eq_some_iff.mp H
            obtain ⟨t756, A370, H⟩ := H
            replace H : ((galoislaw01_right.f t742 t743 0 t756).bind fun t757 => (some t757)) = some r := H
            have A37 := Aside0.mk A370
            clear A370
            replace H := Option.bind_eq_some_iff.mp H
            obtain ⟨t757, A380, H⟩ := H
            replace H : (some t757) = some r := H
            have A38 := Aside0.mk A380
            clear A380
            obtain rfl := Option.some.inj H
            go_wp2_with (first | ((with_reducible refine gate_callee (f := 39) rfl ?_); refine goesL_ (some 89) rfl rfl Try.func39 (by kernel_rfl) rfl #[.string a0, .string a1] rfl (by (try simp only [List.map_toArray, List.map_cons, List.map_nil]); first | done | rfl | (simp only [List.length_drop, List.length_take]; rfl)) ?_; (with_reducible refine (galoisref01_Compare.calls kj21 a0 a1 t751 _ A28.out).mono ?_); rintro e w' ⟨rfl, ⟨nd, rfl⟩⟩; refine ⟨_, rfl, ?_⟩) | (go_at_call 40; (with_reducible refine (galoisref01_Add.calls kj21 a0 a1 t752 _ A31.out).mono ?_); rintro e w39 ⟨rfl, hb⟩; have n0_ := Aside0.mk (below_step (by repeat (first | (with_reducible first | exact HB.out | apply below_alloc | apply pw_below_drewN | apply below_drew1) | exact HB.out)) hb); clear HB; have HB := n0_; clear n0_; (try clear hb); (try clear hb2); (try clear hk); (try clear hi)) | (go_at_call 17; (with_reducible refine (galoislaw01_right.calls t738 t739 0 t752 true _ A32.out).mono ?_); rintro e w' ⟨rfl, ⟨nd, rfl⟩⟩) | (go_at_call 41; (with_reducible refine (galoisref01_Sub.calls kj21 a0 a1 t754 _ A34.out).mono ?_); rintro e w40 ⟨rfl, hb⟩; have n0_ := Aside0.mk (below_step (by repeat (first | (with_reducible first | exact HB.out | apply below_alloc | apply pw_below_drewN | apply below_drew1) | exact HB.out)) hb); clear HB; have HB := n0_; clear n0_; (try clear hb); (try clear hb2); (try clear hk); (try clear hi)) | (go_at_call 17; (with_reducible refine (galoislaw01_right.calls t740 t741 x14_21 t754 true _ A35.out).mono ?_); rintro e w' ⟨rfl, ⟨nd, rfl⟩⟩) | (go_at_call 42; (with_reducible refine (galoisref01_Mul.calls kj21 a0 a1 t756 _ A37.out).mono ?_); rintro e w41 ⟨rfl, hb⟩; have n0_ := Aside0.mk (below_step (by repeat (first | (with_reducible first | exact HB.out | apply below_alloc | apply pw_below_drewN | apply below_drew1) | exact HB.out)) hb); clear HB; have HB := n0_; clear n0_; (try clear hb); (try clear hb2); (try clear hk); (try clear hi)) | (go_at_call 17; (with_reducible refine (galoislaw01_right.calls t742 t743 0 t756 t757 _ A38.out).mono ?_); rintro e w' ⟨rfl, ⟨nd, rfl⟩⟩))
            go_ret
            exact ⟨by first | rfl | (simp [errW_none, errW_some] <;> rfl) | (simp [*, errW_none, errW_some] <;> rfl), by repeat (first | (with_reducible first | exact HB.out | apply below_alloc | apply pw_below_drewN | apply below_drew1) | exact HB.out)⟩
           ·replace c36 := Bool.eq_false_iff.mpr c36
            subst c36
            have H1 : (some false) = some r := by rw [if_neg (show ¬ (false = true) by decide)] at H; exact H
            clear H
            have H := H1
            clear H1
            obtain rfl := Option.some.inj H
            go_wp2_with (first | ((with_reducible refine gate_callee (f := 39) rfl ?_); refine goesL_ (some 89) rfl rfl Try.func39 (by kernel_rfl) rfl #[.string a0, .string a1] rfl (by (try simp only [List.map_toArray, List.map_cons, List.map_nil]); first | done | rfl | (simp only [List.length_drop, List.length_take]; rfl)) ?_; (with_reducible refine (galoisref01_Compare.calls kj21 a0 a1 t751 _ A28.out).mono ?_); rintro e w' ⟨rfl, ⟨nd, rfl⟩⟩; refine ⟨_, rfl, ?_⟩) | (go_at_call 40; (with_reducible refine (galoisref01_Add.calls kj21 a0 a1 t752 _ A31.out).mono ?_); rintro e w42 ⟨rfl, hb⟩; have n0_ := Aside0.mk (below_step (by repeat (first | (with_reducible first | exact HB.out | apply below_alloc | apply pw_below_drewN | apply below_drew1) | exact HB.out)) hb); clear HB; have HB := n0_; clear n0_; (try clear hb); (try clear hb2); (try clear hk); (try clear hi)) | (go_at_call 17; (with_reducible refine (galoislaw01_right.calls t738 t739 0 t752 true _ A32.out).mono ?_); rintro e w' ⟨rfl, ⟨nd, rfl⟩⟩) | (go_at_call 41; (with_reducible refine (galoisref01_Sub.calls kj21 a0 a1 t754 _ A34.out).mono ?_); rintro e w43 ⟨rfl, hb⟩; have n0_ := Aside0.mk (below_step (by repeat (first | (with_reducible first | exact HB.out | apply below_alloc | apply pw_below_drewN | apply below_drew1) | exact HB.out)) hb); clear HB; have HB := n0_; clear n0_; (try clear hb); (try clear hb2); (try clear hk); (try clear hi)) | (go_at_call 17; (with_reducible refine (galoislaw01_right.calls t740 t741 x14_21 t754 false _ A35.out).mono ?_); rintro e w' ⟨rfl, ⟨nd, rfl⟩⟩))
            go_ret
            exact ⟨by first | rfl | (simp [errW_none, errW_some] <;> rfl) | (simp [*, errW_none, errW_some] <;> rfl), by repeat (first | (with_reducible first | exact HB.out | apply below_alloc | apply pw_below_drewN | apply below_drew1) | exact HB.out)⟩
          ·replace c33 := Bool.eq_false_iff.mpr c33
           subst c33
           have H1 : (some false) = some r := by rw [if_neg (show ¬ (false = true) by decide)] at H; exact H
           clear H
           have H := H1
           clear H1
           obtain rfl := Option.some.inj H
           go_wp2_with (first | ((with_reducible refine gate_callee (f := 39) rfl ?_); refine goesL_ (some 89) rfl rfl Try.func39 (by kernel_rfl) rfl #[.string a0, .string a1] rfl (by (try simp only [List.map_toArray, List.map_cons, List.map_nil]); first | done | rfl | (simp only [List.length_drop, List.length_take]; rfl)) ?_; (with_reducible refine (galoisref01_Compare.calls kj21 a0 a1 t751 _ A28.out).mono ?_); rintro e w' ⟨rfl, ⟨nd, rfl⟩⟩; refine ⟨_, rfl, ?_⟩) | (go_at_call 40; (with_reducible refine (galoisref01_Add.calls kj21 a0 a1 t752 _ A31.out).mono ?_); rintro e w44 ⟨rfl, hb⟩; have n0_ := Aside0.mk (below_step (by repeat (first | (with_reducible first | exact HB.out | apply below_alloc | apply pw_below_drewN | apply below_drew1) | exact HB.out)) hb); clear HB; have HB := n0_; clear n0_; (try clear hb); (try clear hb2); (try clear hk); (try clear hi)) | (go_at_call 17; (with_reducible refine (galoislaw01_right.calls t738 t739 0 t752 false _ A32.out).mono ?_); rintro e w' ⟨rfl, ⟨nd, rfl⟩⟩))
           go_ret
           exact ⟨by first | rfl | (simp [errW_none, errW_some] <;> rfl) | (simp [*, errW_none, errW_some] <;> rfl), by repeat (first | (with_reducible first | exact HB.out | apply below_alloc | apply pw_below_drewN | apply below_drew1) | exact HB.out)⟩
         ·rw [if_neg c30] at H
          have c30b0 : (t737 == 0) = false := beq_eq_false_iff_ne.mpr c30
          have c30b1 : (t737 != 0) = true := bne_iff_ne.mpr c30
          obtain rfl := Option.some.inj H
          go_wp2_with (first | ((with_reducible refine gate_callee (f := 39) rfl ?_); refine goesL_ (some 89) rfl rfl Try.func39 (by kernel_rfl) rfl #[.string a0, .string a1] rfl (by (try simp only [List.map_toArray, List.map_cons, List.map_nil]); first | done | rfl | (simp only [List.length_drop, List.length_take]; rfl)) ?_; (with_reducible refine (galoisref01_Compare.calls kj21 a0 a1 t751 _ A28.out).mono ?_); rintro e w' ⟨rfl, ⟨nd, rfl⟩⟩; refine ⟨_, rfl, ?_⟩))
          go_ret
          exact ⟨by first | rfl | (simp [errW_none, errW_some] <;> rfl) | (simp [*, errW_none, errW_some] <;> rfl), by repeat (first | (with_reducible first | exact HB.out | apply below_alloc | apply pw_below_drewN | apply below_drew1) | exact HB.out)⟩
        ·rw [if_neg c29] at H
         have c29b0 : (t736 == t751) = false := beq_eq_false_iff_ne.mpr c29
         have c29b1 : (t736 != t751) = true := bne_iff_ne.mpr c29
         obtain rfl := Option.some.inj H
         go_wp2_with (first | ((with_reducible refine gate_callee (f := 39) rfl ?_); refine goesL_ (some 89) rfl rfl Try.func39 (by kernel_rfl) rfl #[.string a0, .string a1] rfl (by (try simp only [List.map_toArray, List.map_cons, List.map_nil]); first | done | rfl | (simp only [List.length_drop, List.length_take]; rfl)) ?_; (with_reducible refine (galoisref01_Compare.calls kj21 a0 a1 t751 _ A28.out).mono ?_); rintro e w' ⟨rfl, ⟨nd, rfl⟩⟩; refine ⟨_, rfl, ?_⟩))
         go_ret
         exact ⟨by first | rfl | (simp [errW_none, errW_some] <;> rfl) | (simp [*, errW_none, errW_some] <;> rfl), by repeat (first | (with_reducible first | exact HB.out | apply below_alloc | apply pw_below_drewN | apply below_drew1) | exact HB.out)⟩
     ·rw [if_neg c20] at H
      have c20b0 : (t746 == 0) = false := beq_eq_false_iff_ne.mpr c20
      have c20b1 : (t746 != 0) = true := bne_iff_ne.mpr c20
      by_cases c45 : t736 = 0
      ·rw [if_pos c45] at H
       have c45b0 : (t736 == 0) = true := beq_iff_eq.mpr c45
       have c45b1 : (t736 != 0) = false := bne_eq_false_iff_eq.mpr c45
       clear c45
       by_cases c46 : t737 = t746
       ·rw [if_pos c46] at H
        have c46b0 : (t737 == t746) = true := beq_iff_eq.mpr c46
        have c46b1 : (t737 != t746) = false := bne_eq_false_iff_eq.mpr c46
        clear c46
        replace H := Option.bind_eq_some_iff.mp H
        obtain ⟨t747, A470, H⟩ := H
        replace H : (if t747 = true then ((galoislaw01_right.f t740 t741 t746 (⟨#[]⟩ : ByteArray)).bind fun t748 => (if t748 = true then ((galoislaw01_right.f t742 t743 t746 (⟨#[]⟩ : ByteArray)).bind fun t749 => (some t749)) else (some false))) else (some false)) = some r := H
        have A47 := Aside0.mk A470
        clear A470
        by_cases c48 : t747 = true
        ·subst c48
         have H1 : ((galoislaw01_right.f t740 t741 t746 (⟨#[]⟩ : ByteArray)).bind fun t748 => (if t748 = true then ((galoislaw01_right.f t742 t743 t746 (⟨#[]⟩ : ByteArray)).bind fun t749 => (some t749)) else (some false))) = some r := by rw [if_pos rfl] at H; exact H
         clear H
         have H := H1
         clear H1
         replace H := Option.bind_eq_some_iff.mp H
         obtain ⟨t748, A490, H⟩ := H
         replace H : (if t748 = true then ((galoislaw01_right.f t742 t743 t746 (⟨#[]⟩ : ByteArray)).bind fun t749 => (some t749)) else (some false)) = some r := H
         have A49 := Aside0.mk A490
         clear A490
         by_cases c50 : t748 = true
         ·subst c50
          have H1 : ((galoislaw01_right.f t742 t743 t746 (⟨#[]⟩ : ByteArray)).bind fun t749 => (some t749)) = some r := by rw [if_pos rfl] at H; exact H
          clear H
          have H := H1
          clear H1
          replace H := Option.bind_eq_some_iff.mp H
          obtain ⟨t749, A510, H⟩ := H
          replace H : (some t749) = some r := H
          have A51 := Aside0.mk A510
          clear A510
          obtain rfl := Option.some.inj H
          go_wp2_with (first | ((with_reducible refine gate_callee (f := 36) rfl ?_); refine goesL_ (some 26) rfl rfl Try.func36 (by kernel_rfl) rfl #[.string a0, .string a1] rfl (by (try simp only [List.map_toArray, List.map_cons, List.map_nil]); first | done | rfl | (simp only [List.length_drop, List.length_take]; rfl)) ?_; (with_reducible refine (natural_Compare.calls kj2 a0 a1 t736 t737 _ A12.out).mono ?_); rintro e w52 ⟨rfl, hb⟩; refine ⟨_, rfl, ?_⟩; have n0_ := Aside0.mk (below_step (by repeat (first | (with_reducible first | exact HB.out | apply below_alloc | apply pw_below_drewN | apply below_drew1) | exact HB.out)) hb); clear HB; have HB := n0_; clear n0_; (try clear hb); (try clear hb2); (try clear hk); (try clear hi)) | ((with_reducible refine gate_callee (f := 35) rfl ?_); refine goesL_ (some 32) rfl rfl Try.func35 (by kernel_rfl) rfl #[.string a0, .string a1] rfl (by (try simp only [List.map_toArray, List.map_cons, List.map_nil]); first | done | rfl | (simp only [List.length_drop, List.length_take]; rfl)) ?_; (with_reducible refine (natural_Add.calls kj2 a0 a1 t738 t739 _ A13.out).mono ?_); rintro e w53 ⟨rfl, hb⟩; refine ⟨_, rfl, ?_⟩; have n0_ := Aside0.mk (below_step (by repeat (first | (with_reducible first | exact HB.out | apply below_alloc | apply pw_below_drewN | apply below_drew1) | exact HB.out)) hb); clear HB; have HB := n0_; clear n0_; (try clear hb); (try clear hb2); (try clear hk); (try clear hi)) | ((with_reducible refine gate_callee (f := 37) rfl ?_); refine goesL_ (some 38) rfl rfl Try.func37 (by kernel_rfl) rfl #[.string a0, .string a1] rfl (by (try simp only [List.map_toArray, List.map_cons, List.map_nil]); first | done | rfl | (simp only [List.length_drop, List.length_take]; rfl)) ?_; (with_reducible refine (natural_Sub.calls kj2 a0 a1 t740 t741 _ A14.out).mono ?_); rintro e w54 ⟨rfl, hb⟩; refine ⟨_, rfl, ?_⟩; have n0_ := Aside0.mk (below_step (by repeat (first | (with_reducible first | exact HB.out | apply below_alloc | apply pw_below_drewN | apply below_drew1) | exact HB.out)) hb); clear HB; have HB := n0_; clear n0_; (try clear hb); (try clear hb2); (try clear hk); (try clear hi)) | ((with_reducible refine gate_callee (f := 31) rfl ?_); refine goesL_ (some 44) rfl rfl Try.func31 (by kernel_rfl) rfl #[.string a0, .string a1] rfl (by (try simp only [List.map_toArray, List.map_cons, List.map_nil]); first | done | rfl | (simp only [List.length_drop, List.length_take]; rfl)) ?_; (with_reducible refine (natural_Mul.calls kj2 a0 a1 t742 t743 _ A15.out).mono ?_); rintro e w55 ⟨rfl, hb⟩; refine ⟨_, rfl, ?_⟩; have n0_ := Aside0.mk (below_step (by repeat (first | (with_reducible first | exact HB.out | apply below_alloc | apply pw_below_drewN | apply below_drew1) | exact HB.out)) hb); clear HB; have HB := n0_; clear n0_; (try clear hb); (try clear hb2); (try clear hk); (try clear hi)) | ((with_reducible refine gate_callee (f := 38) rfl ?_); refine goesL_ (some 48) rfl rfl Try.func38 (by kernel_rfl) rfl #[.string a0] rfl (by (try simp only [List.map_toArray, List.map_cons, List.map_nil]); first | done | rfl | (simp only [List.length_drop, List.length_take]; rfl)) ?_; (with_reducible refine (natural_Check.calls kj2 a0 t744 _ A16.out).mono ?_); rintro e w' ⟨rfl, ⟨nd, rfl⟩⟩; refine ⟨_, rfl, ?_⟩) | ((with_reducible refine gate_callee (f := 24) rfl ?_); refine goesL_ (some 50) rfl rfl Try.func24 (by kernel_rfl) rfl #[.string a0] rfl (by (try simp only [List.map_toArray, List.map_cons, List.map_nil]); first | done | rfl | (simp only [List.length_drop, List.length_take]; rfl)) ?_; (with_reducible refine (galoisref01_Check.calls a0 t745 _ A17.out).mono ?_); rintro e w' ⟨rfl, ⟨nd, rfl⟩⟩; refine ⟨_, rfl, ?_⟩) | ((with_reducible refine gate_callee (f := 16) rfl ?_); refine goesL_ (some 54) rfl rfl Try.func16 (by kernel_rfl) rfl #[.string a0, .string a1] rfl (by (try simp only [List.map_toArray, List.map_cons, List.map_nil]); first | done | rfl | (simp only [List.length_drop, List.length_take]; rfl)) ?_; (with_reducible refine (galoislaw01_expected.calls a0 a1 t746 _ A19.out).mono ?_); rintro e w' ⟨rfl, ⟨nd, rfl⟩⟩; refine ⟨_, rfl, ?_⟩) | (go_at_call 17; (with_reducible refine (galoislaw01_right.calls t738 t739 t746 (⟨#[]⟩ : ByteArray) true _ A47.out).mono ?_); rintro e w' ⟨rfl, ⟨nd, rfl⟩⟩) | (go_at_call 17; (with_reducible refine (galoislaw01_right.calls t740 t741 t746 (⟨#[]⟩ : ByteArray) true _ A49.out).mono ?_); rintro e w' ⟨rfl, ⟨nd, rfl⟩⟩) | (go_at_call 17; (with_reducible refine (galoislaw01_right.calls t742 t743 t746 (⟨#[]⟩ : ByteArray) t749 _ A51.out).mono ?_); rintro e w' ⟨rfl, ⟨nd, rfl⟩⟩))
          go_ret
          exact ⟨by first | rfl | (simp [errW_none, errW_some] <;> rfl) | (simp [*, errW_none, errW_some] <;> rfl), by repeat (first | (with_reducible first | exact HB.out | apply below_alloc | apply pw_below_drewN | apply below_drew1) | exact HB.out)⟩
         ·replace c50 := Bool.eq_false_iff.mpr c50
          subst c50
          have H1 : (some false) = some r := by rw [if_neg (show ¬ (false = true) by decide)] at H; exact H
          clear H
          have H := H1
          clear H1
          obtain rfl := Option.some.inj H
          go_wp2_with (first | ((with_reducible refine gate_callee (f := 36) rfl ?_); refine goesL_ (some 26) rfl rfl Try.func36 (by kernel_rfl) rfl #[.string a0, .string a1] rfl (by (try simp only [List.map_toArray, List.map_cons, List.map_nil]); first | done | rfl | (simp only [List.length_drop, List.length_take]; rfl)) ?_; (with_reducible refine (natural_Compare.calls kj2 a0 a1 t736 t737 _ A12.out).mono ?_); rintro e w56 ⟨rfl, hb⟩; refine ⟨_, rfl, ?_⟩; have n0_ := Aside0.mk (below_step (by repeat (first | (with_reducible first | exact HB.out | apply below_alloc | apply pw_below_drewN | apply below_drew1) | exact HB.out)) hb); clear HB; have HB := n0_; clear n0_; (try clear hb); (try clear hb2); (try clear hk); (try clear hi)) | ((with_reducible refine gate_callee (f := 35) rfl ?_); refine goesL_ (some 32) rfl rfl Try.func35 (by kernel_rfl) rfl #[.string a0, .string a1] rfl (by (try simp only [List.map_toArray, List.map_cons, List.map_nil]); first | done | rfl | (simp only [List.length_drop, List.length_take]; rfl)) ?_; (with_reducible refine (natural_Add.calls kj2 a0 a1 t738 t739 _ A13.out).mono ?_); rintro e w57 ⟨rfl, hb⟩; refine ⟨_, rfl, ?_⟩; have n0_ := Aside0.mk (below_step (by repeat (first | (with_reducible first | exact HB.out | apply below_alloc | apply pw_below_drewN | apply below_drew1) | exact HB.out)) hb); clear HB; have HB := n0_; clear n0_; (try clear hb); (try clear hb2); (try clear hk); (try clear hi)) | ((with_reducible refine gate_callee (f := 37) rfl ?_); refine goesL_ (some 38) rfl rfl Try.func37 (by kernel_rfl) rfl #[.string a0, .string a1] rfl (by (try simp only [List.map_toArray, List.map_cons, List.map_nil]); first | done | rfl | (simp only [List.length_drop, List.length_take]; rfl)) ?_; (with_reducible refine (natural_Sub.calls kj2 a0 a1 t740 t741 _ A14.out).mono ?_); rintro e w58 ⟨rfl, hb⟩; refine ⟨_, rfl, ?_⟩; have n0_ := Aside0.mk (below_step (by repeat (first | (with_reducible first | exact HB.out | apply below_alloc | apply pw_below_drewN | apply below_drew1) | exact HB.out)) hb); clear HB; have HB := n0_; clear n0_; (try clear hb); (try clear hb2); (try clear hk); (try clear hi)) | ((with_reducible refine gate_callee (f := 31) rfl ?_); refine goesL_ (some 44) rfl rfl Try.func31 (by kernel_rfl) rfl #[.string a0, .string a1] rfl (by (try simp only [List.map_toArray, List.map_cons, List.map_nil]); first | done | rfl | (simp only [List.length_drop, List.length_take]; rfl)) ?_; (with_reducible refine (natural_Mul.calls kj2 a0 a1 t742 t743 _ A15.out).mono ?_); rintro e w59 ⟨rfl, hb⟩; refine ⟨_, rfl, ?_⟩; have n0_ := Aside0.mk (below_step (by repeat (first | (with_reducible first | exact HB.out | apply below_alloc | apply pw_below_drewN | apply below_drew1) | exact HB.out)) hb); clear HB; have HB := n0_; clear n0_; (try clear hb); (try clear hb2); (try clear hk); (try clear hi)) | ((with_reducible refine gate_callee (f := 38) rfl ?_); refine goesL_ (some 48) rfl rfl Try.func38 (by kernel_rfl) rfl #[.string a0] rfl (by (try simp only [List.map_toArray, List.map_cons, List.map_nil]); first | done | rfl | (simp only [List.length_drop, List.length_take]; rfl)) ?_; (with_reducible refine (natural_Check.calls kj2 a0 t744 _ A16.out).mono ?_); rintro e w' ⟨rfl, ⟨nd, rfl⟩⟩; refine ⟨_, rfl, ?_⟩) | ((with_reducible refine gate_callee (f := 24) rfl ?_); refine goesL_ (some 50) rfl rfl Try.func24 (by kernel_rfl) rfl #[.string a0] rfl (by (try simp only [List.map_toArray, List.map_cons, List.map_nil]); first | done | rfl | (simp only [List.length_drop, List.length_take]; rfl)) ?_; (with_reducible refine (galoisref01_Check.calls a0 t745 _ A17.out).mono ?_); rintro e w' ⟨rfl, ⟨nd, rfl⟩⟩; refine ⟨_, rfl, ?_⟩) | ((with_reducible refine gate_callee (f := 16) rfl ?_); refine goesL_ (some 54) rfl rfl Try.func16 (by kernel_rfl) rfl #[.string a0, .string a1] rfl (by (try simp only [List.map_toArray, List.map_cons, List.map_nil]); first | done | rfl | (simp only [List.length_drop, List.length_take]; rfl)) ?_; (with_reducible refine (galoislaw01_expected.calls a0 a1 t746 _ A19.out).mono ?_); rintro e w' ⟨rfl, ⟨nd, rfl⟩⟩; refine ⟨_, rfl, ?_⟩) | (go_at_call 17; (with_reducible refine (galoislaw01_right.calls t738 t739 t746 (⟨#[]⟩ : ByteArray) true _ A47.out).mono ?_); rintro e w' ⟨rfl, ⟨nd, rfl⟩⟩) | (go_at_call 17; (with_reducible refine (galoislaw01_right.calls t740 t741 t746 (⟨#[]⟩ : ByteArray) false _ A49.out).mono ?_); rintro e w' ⟨rfl, ⟨nd, rfl⟩⟩))
          go_ret
          exact ⟨by first | rfl | (simp [errW_none, errW_some] <;> rfl) | (simp [*, errW_none, errW_some] <;> rfl), by repeat (first | (with_reducible first | exact HB.out | apply below_alloc | apply pw_below_drewN | apply below_drew1) | exact HB.out)⟩
        ·replace c48 := Bool.eq_false_iff.mpr c48
         subst c48
         have H1 : (some false) = some r := by rw [if_neg (show ¬ (false = true) by decide)] at H; exact H
         clear H
         have H := H1
         clear H1
         obtain rfl := Option.some.inj H
         go_wp2_with (first | ((with_reducible refine gate_callee (f := 36) rfl ?_); refine goesL_ (some 26) rfl rfl Try.func36 (by kernel_rfl) rfl #[.string a0, .string a1] rfl (by (try simp only [List.map_toArray, List.map_cons, List.map_nil]); first | done | rfl | (simp only [List.length_drop, List.length_take]; rfl)) ?_; (with_reducible refine (natural_Compare.calls kj2 a0 a1 t736 t737 _ A12.out).mono ?_); rintro e w60 ⟨rfl, hb⟩; refine ⟨_, rfl, ?_⟩; have n0_ := Aside0.mk (below_step (by repeat (first | (with_reducible first | exact HB.out | apply below_alloc | apply pw_below_drewN | apply below_drew1) | exact HB.out)) hb); clear HB; have HB := n0_; clear n0_; (try clear hb); (try clear hb2); (try clear hk); (try clear hi)) | ((with_reducible refine gate_callee (f := 35) rfl ?_); refine goesL_ (some 32) rfl rfl Try.func35 (by kernel_rfl) rfl #[.string a0, .string a1] rfl (by (try simp only [List.map_toArray, List.map_cons, List.map_nil]); first | done | rfl | (simp only [List.length_drop, List.length_take]; rfl)) ?_; (with_reducible refine (natural_Add.calls kj2 a0 a1 t738 t739 _ A13.out).mono ?_); rintro e w61 ⟨rfl, hb⟩; refine ⟨_, rfl, ?_⟩; have n0_ := Aside0.mk (below_step (by repeat (first | (with_reducible first | exact HB.out | apply below_alloc | apply pw_below_drewN | apply below_drew1) | exact HB.out)) hb); clear HB; have HB := n0_; clear n0_; (try clear hb); (try clear hb2); (try clear hk); (try clear hi)) | ((with_reducible refine gate_callee (f := 37) rfl ?_); refine goesL_ (some 38) rfl rfl Try.func37 (by kernel_rfl) rfl #[.string a0, .string a1] rfl (by (try simp only [List.map_toArray, List.map_cons, List.map_nil]); first | done | rfl | (simp only [List.length_drop, List.length_take]; rfl)) ?_; (with_reducible refine (natural_Sub.calls kj2 a0 a1 t740 t741 _ A14.out).mono ?_); rintro e w62 ⟨rfl, hb⟩; refine ⟨_, rfl, ?_⟩; have n0_ := Aside0.mk (below_step (by repeat (first | (with_reducible first | exact HB.out | apply below_alloc | apply pw_below_drewN | apply below_drew1) | exact HB.out)) hb); clear HB; have HB := n0_; clear n0_; (try clear hb); (try clear hb2); (try clear hk); (try clear hi)) | ((with_reducible refine gate_callee (f := 31) rfl ?_); refine goesL_ (some 44) rfl rfl Try.func31 (by kernel_rfl) rfl #[.string a0, .string a1] rfl (by (try simp only [List.map_toArray, List.map_cons, List.map_nil]); first | done | rfl | (simp only [List.length_drop, List.length_take]; rfl)) ?_; (with_reducible refine (natural_Mul.calls kj2 a0 a1 t742 t743 _ A15.out).mono ?_); rintro e w63 ⟨rfl, hb⟩; refine ⟨_, rfl, ?_⟩; have n0_ := Aside0.mk (below_step (by repeat (first | (with_reducible first | exact HB.out | apply below_alloc | apply pw_below_drewN | apply below_drew1) | exact HB.out)) hb); clear HB; have HB := n0_; clear n0_; (try clear hb); (try clear hb2); (try clear hk); (try clear hi)) | ((with_reducible refine gate_callee (f := 38) rfl ?_); refine goesL_ (some 48) rfl rfl Try.func38 (by kernel_rfl) rfl #[.string a0] rfl (by (try simp only [List.map_toArray, List.map_cons, List.map_nil]); first | done | rfl | (simp only [List.length_drop, List.length_take]; rfl)) ?_; (with_reducible refine (natural_Check.calls kj2 a0 t744 _ A16.out).mono ?_); rintro e w' ⟨rfl, ⟨nd, rfl⟩⟩; refine ⟨_, rfl, ?_⟩) | ((with_reducible refine gate_callee (f := 24) rfl ?_); refine goesL_ (some 50) rfl rfl Try.func24 (by kernel_rfl) rfl #[.string a0] rfl (by (try simp only [List.map_toArray, List.map_cons, List.map_nil]); first | done | rfl | (simp only [List.length_drop, List.length_take]; rfl)) ?_; (with_reducible refine (galoisref01_Check.calls a0 t745 _ A17.out).mono ?_); rintro e w' ⟨rfl, ⟨nd, rfl⟩⟩; refine ⟨_, rfl, ?_⟩) | ((with_reducible refine gate_callee (f := 16) rfl ?_); refine goesL_ (some 54) rfl rfl Try.func16 (by kernel_rfl) rfl #[.string a0, .string a1] rfl (by (try simp only [List.map_toArray, List.map_cons, List.map_nil]); first | done | rfl | (simp only [List.length_drop, List.length_take]; rfl)) ?_; (with_reducible refine (galoislaw01_expected.calls a0 a1 t746 _ A19.out).mono ?_); rintro e w' ⟨rfl, ⟨nd, rfl⟩⟩; refine ⟨_, rfl, ?_⟩) | (go_at_call 17; (with_reducible refine (galoislaw01_right.calls t738 t739 t746 (⟨#[]⟩ : ByteArray) false _ A47.out).mono ?_); rintro e w' ⟨rfl, ⟨nd, rfl⟩⟩))
         go_ret
         exact ⟨by first | rfl | (simp [errW_none, errW_some] <;> rfl) | (simp [*, errW_none, errW_some] <;> rfl), by repeat (first | (with_reducible first | exact HB.out | apply below_alloc | apply pw_below_drewN | apply below_drew1) | exact HB.out)⟩
       ·rw [if_neg c46] at H
        have c46b0 : (t737 == t746) = false := beq_eq_false_iff_ne.mpr c46
        have c46b1 : (t737 != t746) = true := bne_iff_ne.mpr c46
        obtain rfl := Option.some.inj H
        go_wp2_with (first | ((with_reducible refine gate_callee (f := 36) rfl ?_); refine goesL_ (some 26) rfl rfl Try.func36 (by kernel_rfl) rfl #[.string a0, .string a1] rfl (by (try simp only [List.map_toArray, List.map_cons, List.map_nil]); first | done | rfl | (simp only [List.length_drop, List.length_take]; rfl)) ?_; (with_reducible refine (natural_Compare.calls kj2 a0 a1 t736 t737 _ A12.out).mono ?_); rintro e w64 ⟨rfl, hb⟩; refine ⟨_, rfl, ?_⟩; have n0_ := Aside0.mk (below_step (by repeat (first | (with_reducible first | exact HB.out | apply below_alloc | apply pw_below_drewN | apply below_drew1) | exact HB.out)) hb); clear HB; have HB := n0_; clear n0_; (try clear hb); (try clear hb2); (try clear hk); (try clear hi)) | ((with_reducible refine gate_callee (f := 35) rfl ?_); refine goesL_ (some 32) rfl rfl Try.func35 (by kernel_rfl) rfl #[.string a0, .string a1] rfl (by (try simp only [List.map_toArray, List.map_cons, List.map_nil]); first | done | rfl | (simp only [List.length_drop, List.length_take]; rfl)) ?_; (with_reducible refine (natural_Add.calls kj2 a0 a1 t738 t739 _ A13.out).mono ?_); rintro e w65 ⟨rfl, hb⟩; refine ⟨_, rfl, ?_⟩; have n0_ := Aside0.mk (below_step (by repeat (first | (with_reducible first | exact HB.out | apply below_alloc | apply pw_below_drewN | apply below_drew1) | exact HB.out)) hb); clear HB; have HB := n0_; clear n0_; (try clear hb); (try clear hb2); (try clear hk); (try clear hi)) | ((with_reducible refine gate_callee (f := 37) rfl ?_); refine goesL_ (some 38) rfl rfl Try.func37 (by kernel_rfl) rfl #[.string a0, .string a1] rfl (by (try simp only [List.map_toArray, List.map_cons, List.map_nil]); first | done | rfl | (simp only [List.length_drop, List.length_take]; rfl)) ?_; (with_reducible refine (natural_Sub.calls kj2 a0 a1 t740 t741 _ A14.out).mono ?_); rintro e w66 ⟨rfl, hb⟩; refine ⟨_, rfl, ?_⟩; have n0_ := Aside0.mk (below_step (by repeat (first | (with_reducible first | exact HB.out | apply below_alloc | apply pw_below_drewN | apply below_drew1) | exact HB.out)) hb); clear HB; have HB := n0_; clear n0_; (try clear hb); (try clear hb2); (try clear hk); (try clear hi)) | ((with_reducible refine gate_callee (f := 31) rfl ?_); refine goesL_ (some 44) rfl rfl Try.func31 (by kernel_rfl) rfl #[.string a0, .string a1] rfl (by (try simp only [List.map_toArray, List.map_cons, List.map_nil]); first | done | rfl | (simp only [List.length_drop, List.length_take]; rfl)) ?_; (with_reducible refine (natural_Mul.calls kj2 a0 a1 t742 t743 _ A15.out).mono ?_); rintro e w67 ⟨rfl, hb⟩; refine ⟨_, rfl, ?_⟩; have n0_ := Aside0.mk (below_step (by repeat (first | (with_reducible first | exact HB.out | apply below_alloc | apply pw_below_drewN | apply below_drew1) | exact HB.out)) hb); clear HB; have HB := n0_; clear n0_; (try clear hb); (try clear hb2); (try clear hk); (try clear hi)) | ((with_reducible refine gate_callee (f := 38) rfl ?_); refine goesL_ (some 48) rfl rfl Try.func38 (by kernel_rfl) rfl #[.string a0] rfl (by (try simp only [List.map_toArray, List.map_cons, List.map_nil]); first | done | rfl | (simp only [List.length_drop, List.length_take]; rfl)) ?_; (with_reducible refine (natural_Check.calls kj2 a0 t744 _ A16.out).mono ?_); rintro e w' ⟨rfl, ⟨nd, rfl⟩⟩; refine ⟨_, rfl, ?_⟩) | ((with_reducible refine gate_callee (f := 24) rfl ?_); refine goesL_ (some 50) rfl rfl Try.func24 (by kernel_rfl) rfl #[.string a0] rfl (by (try simp only [List.map_toArray, List.map_cons, List.map_nil]); first | done | rfl | (simp only [List.length_drop, List.length_take]; rfl)) ?_; (with_reducible refine (galoisref01_Check.calls a0 t745 _ A17.out).mono ?_); rintro e w' ⟨rfl, ⟨nd, rfl⟩⟩; refine ⟨_, rfl, ?_⟩) | ((with_reducible refine gate_callee (f := 16) rfl ?_); refine goesL_ (some 54) rfl rfl Try.func16 (by kernel_rfl) rfl #[.string a0, .string a1] rfl (by (try simp only [List.map_toArray, List.map_cons, List.map_nil]); first | done | rfl | (simp only [List.length_drop, List.length_take]; rfl)) ?_; (with_reducible refine (galoislaw01_expected.calls a0 a1 t746 _ A19.out).mono ?_); rintro e w' ⟨rfl, ⟨nd, rfl⟩⟩; refine ⟨_, rfl, ?_⟩))
        go_ret
        exact ⟨by first | rfl | (simp [errW_none, errW_some] <;> rfl) | (simp [*, errW_none, errW_some] <;> rfl), by repeat (first | (with_reducible first | exact HB.out | apply below_alloc | apply pw_below_drewN | apply below_drew1) | exact HB.out)⟩
      ·rw [if_neg c45] at H
       have c45b0 : (t736 == 0) = false := beq_eq_false_iff_ne.mpr c45
       have c45b1 : (t736 != 0) = true := bne_iff_ne.mpr c45
       obtain rfl := Option.some.inj H
       go_wp2_with (first | ((with_reducible refine gate_callee (f := 36) rfl ?_); refine goesL_ (some 26) rfl rfl Try.func36 (by kernel_rfl) rfl #[.string a0, .string a1] rfl (by (try simp only [List.map_toArray, List.map_cons, List.map_nil]); first | done | rfl | (simp only [List.length_drop, List.length_take]; rfl)) ?_; (with_reducible refine (natural_Compare.calls kj2 a0 a1 t736 t737 _ A12.out).mono ?_); rintro e w68 ⟨rfl, hb⟩; refine ⟨_, rfl, ?_⟩; have n0_ := Aside0.mk (below_step (by repeat (first | (with_reducible first | exact HB.out | apply below_alloc | apply pw_below_drewN | apply below_drew1) | exact HB.out)) hb); clear HB; have HB := n0_; clear n0_; (try clear hb); (try clear hb2); (try clear hk); (try clear hi)) | ((with_reducible refine gate_callee (f := 35) rfl ?_); refine goesL_ (some 32) rfl rfl Try.func35 (by kernel_rfl) rfl #[.string a0, .string a1] rfl (by (try simp only [List.map_toArray, List.map_cons, List.map_nil]); first | done | rfl | (simp only [List.length_drop, List.length_take]; rfl)) ?_; (with_reducible refine (natural_Add.calls kj2 a0 a1 t738 t739 _ A13.out).mono ?_); rintro e w69 ⟨rfl, hb⟩; refine ⟨_, rfl, ?_⟩; have n0_ := Aside0.mk (below_step (by repeat (first | (with_reducible first | exact HB.out | apply below_alloc | apply pw_below_drewN | apply below_drew1) | exact HB.out)) hb); clear HB; have HB := n0_; clear n0_; (try clear hb); (try clear hb2); (try clear hk); (try clear hi)) | ((with_reducible refine gate_callee (f := 37) rfl ?_); refine goesL_ (some 38) rfl rfl Try.func37 (by kernel_rfl) rfl #[.string a0, .string a1] rfl (by (try simp only [List.map_toArray, List.map_cons, List.map_nil]); first | done | rfl | (simp only [List.length_drop, List.length_take]; rfl)) ?_; (with_reducible refine (natural_Sub.calls kj2 a0 a1 t740 t741 _ A14.out).mono ?_); rintro e w70 ⟨rfl, hb⟩; refine ⟨_, rfl, ?_⟩; have n0_ := Aside0.mk (below_step (by repeat (first | (with_reducible first | exact HB.out | apply below_alloc | apply pw_below_drewN | apply below_drew1) | exact HB.out)) hb); clear HB; have HB := n0_; clear n0_; (try clear hb); (try clear hb2); (try clear hk); (try clear hi)) | ((with_reducible refine gate_callee (f := 31) rfl ?_); refine goesL_ (some 44) rfl rfl Try.func31 (by kernel_rfl) rfl #[.string a0, .string a1] rfl (by (try simp only [List.map_toArray, List.map_cons, List.map_nil]); first | done | rfl | (simp only [List.length_drop, List.length_take]; rfl)) ?_; (with_reducible refine (natural_Mul.calls kj2 a0 a1 t742 t743 _ A15.out).mono ?_); rintro e w71 ⟨rfl, hb⟩; refine ⟨_, rfl, ?_⟩; have n0_ := Aside0.mk (below_step (by repeat (first | (with_reducible first | exact HB.out | apply below_alloc | apply pw_below_drewN | apply below_drew1) | exact HB.out)) hb); clear HB; have HB := n0_; clear n0_; (try clear hb); (try clear hb2); (try clear hk); (try clear hi)) | ((with_reducible refine gate_callee (f := 38) rfl ?_); refine goesL_ (some 48) rfl rfl Try.func38 (by kernel_rfl) rfl #[.string a0] rfl (by (try simp only [List.map_toArray, List.map_cons, List.map_nil]); first | done | rfl | (simp only [List.length_drop, List.length_take]; rfl)) ?_; (with_reducible refine (natural_Check.calls kj2 a0 t744 _ A16.out).mono ?_); rintro e w' ⟨rfl, ⟨nd, rfl⟩⟩; refine ⟨_, rfl, ?_⟩) | ((with_reducible refine gate_callee (f := 24) rfl ?_); refine goesL_ (some 50) rfl rfl Try.func24 (by kernel_rfl) rfl #[.string a0] rfl (by (try simp only [List.map_toArray, List.map_cons, List.map_nil]); first | done | rfl | (simp only [List.length_drop, List.length_take]; rfl)) ?_; (with_reducible refine (galoisref01_Check.calls a0 t745 _ A17.out).mono ?_); rintro e w' ⟨rfl, ⟨nd, rfl⟩⟩; refine ⟨_, rfl, ?_⟩) | ((with_reducible refine gate_callee (f := 16) rfl ?_); refine goesL_ (some 54) rfl rfl Try.func16 (by kernel_rfl) rfl #[.string a0, .string a1] rfl (by (try simp only [List.map_toArray, List.map_cons, List.map_nil]); first | done | rfl | (simp only [List.length_drop, List.length_take]; rfl)) ?_; (with_reducible refine (galoislaw01_expected.calls a0 a1 t746 _ A19.out).mono ?_); rintro e w' ⟨rfl, ⟨nd, rfl⟩⟩; refine ⟨_, rfl, ?_⟩))
       go_ret
       exact ⟨by first | rfl | (simp [errW_none, errW_some] <;> rfl) | (simp [*, errW_none, errW_some] <;> rfl), by repeat (first | (with_reducible first | exact HB.out | apply below_alloc | apply pw_below_drewN | apply below_drew1) | exact HB.out)⟩
    ·rw [if_neg c18] at H
     have c18b0 : (t744 == t745) = false := beq_eq_false_iff_ne.mpr c18
     have c18b1 : (t744 != t745) = true := bne_iff_ne.mpr c18
     obtain rfl := Option.some.inj H
     go_wp2_with (first | ((with_reducible refine gate_callee (f := 36) rfl ?_); refine goesL_ (some 26) rfl rfl Try.func36 (by kernel_rfl) rfl #[.string a0, .string a1] rfl (by (try simp only [List.map_toArray, List.map_cons, List.map_nil]); first | done | rfl | (simp only [List.length_drop, List.length_take]; rfl)) ?_; (with_reducible refine (natural_Compare.calls kj2 a0 a1 t736 t737 _ A12.out).mono ?_); rintro e w72 ⟨rfl, hb⟩; refine ⟨_, rfl, ?_⟩; have n0_ := Aside0.mk (below_step (by repeat (first | (with_reducible first | exact HB.out | apply below_alloc | apply pw_below_drewN | apply below_drew1) | exact HB.out)) hb); clear HB; have HB := n0_; clear n0_; (try clear hb); (try clear hb2); (try clear hk); (try clear hi)) | ((with_reducible refine gate_callee (f := 35) rfl ?_); refine goesL_ (some 32) rfl rfl Try.func35 (by kernel_rfl) rfl #[.string a0, .string a1] rfl (by (try simp only [List.map_toArray, List.map_cons, List.map_nil]); first | done | rfl | (simp only [List.length_drop, List.length_take]; rfl)) ?_; (with_reducible refine (natural_Add.calls kj2 a0 a1 t738 t739 _ A13.out).mono ?_); rintro e w73 ⟨rfl, hb⟩; refine ⟨_, rfl, ?_⟩; have n0_ := Aside0.mk (below_step (by repeat (first | (with_reducible first | exact HB.out | apply below_alloc | apply pw_below_drewN | apply below_drew1) | exact HB.out)) hb); clear HB; have HB := n0_; clear n0_; (try clear hb); (try clear hb2); (try clear hk); (try clear hi)) | ((with_reducible refine gate_callee (f := 37) rfl ?_); refine goesL_ (some 38) rfl rfl Try.func37 (by kernel_rfl) rfl #[.string a0, .string a1] rfl (by (try simp only [List.map_toArray, List.map_cons, List.map_nil]); first | done | rfl | (simp only [List.length_drop, List.length_take]; rfl)) ?_; (with_reducible refine (natural_Sub.calls kj2 a0 a1 t740 t741 _ A14.out).mono ?_); rintro e w74 ⟨rfl, hb⟩; refine ⟨_, rfl, ?_⟩; have n0_ := Aside0.mk (below_step (by repeat (first | (with_reducible first | exact HB.out | apply below_alloc | apply pw_below_drewN | apply below_drew1) | exact HB.out)) hb); clear HB; have HB := n0_; clear n0_; (try clear hb); (try clear hb2); (try clear hk); (try clear hi)) | ((with_reducible refine gate_callee (f := 31) rfl ?_); refine goesL_ (some 44) rfl rfl Try.func31 (by kernel_rfl) rfl #[.string a0, .string a1] rfl (by (try simp only [List.map_toArray, List.map_cons, List.map_nil]); first | done | rfl | (simp only [List.length_drop, List.length_take]; rfl)) ?_; (with_reducible refine (natural_Mul.calls kj2 a0 a1 t742 t743 _ A15.out).mono ?_); rintro e w75 ⟨rfl, hb⟩; refine ⟨_, rfl, ?_⟩; have n0_ := Aside0.mk (below_step (by repeat (first | (with_reducible first | exact HB.out | apply below_alloc | apply pw_below_drewN | apply below_drew1) | exact HB.out)) hb); clear HB; have HB := n0_; clear n0_; (try clear hb); (try clear hb2); (try clear hk); (try clear hi)) | ((with_reducible refine gate_callee (f := 38) rfl ?_); refine goesL_ (some 48) rfl rfl Try.func38 (by kernel_rfl) rfl #[.string a0] rfl (by (try simp only [List.map_toArray, List.map_cons, List.map_nil]); first | done | rfl | (simp only [List.length_drop, List.length_take]; rfl)) ?_; (with_reducible refine (natural_Check.calls kj2 a0 t744 _ A16.out).mono ?_); rintro e w' ⟨rfl, ⟨nd, rfl⟩⟩; refine ⟨_, rfl, ?_⟩) | ((with_reducible refine gate_callee (f := 24) rfl ?_); refine goesL_ (some 50) rfl rfl Try.func24 (by kernel_rfl) rfl #[.string a0] rfl (by (try simp only [List.map_toArray, List.map_cons, List.map_nil]); first | done | rfl | (simp only [List.length_drop, List.length_take]; rfl)) ?_; (with_reducible refine (galoisref01_Check.calls a0 t745 _ A17.out).mono ?_); rintro e w' ⟨rfl, ⟨nd, rfl⟩⟩; refine ⟨_, rfl, ?_⟩))
     go_ret
     exact ⟨by first | rfl | (simp [errW_none, errW_some] <;> rfl) | (simp [*, errW_none, errW_some] <;> rfl), by repeat (first | (with_reducible first | exact HB.out | apply below_alloc | apply pw_below_drewN | apply below_drew1) | exact HB.out)⟩
def galoislaw01_NaturalSums.Pure : Prop := ∀ (a0 : ByteArray) (a1 : ByteArray), a0.size ≤ 140737488351232 → a1.size ≤ 140737488351232 → ∃ k, galoislaw01_NaturalSums.f k a0 a1 = some true
theorem galoislaw01_NaturalSums.walk (P : galoislaw01_NaturalSums.Pure) (a0 : ByteArray) (a1 : ByteArray) (w : World) (w0 : a0.size ≤ 140737488351232) (w1 : a1.size ≤ 140737488351232) :
  Calls Try.prog 9 #[.string a0, .string a1] w fun e w' => e = .returned (.bool true) ∧ Below w.heap.size w w' := by
 obtain ⟨k, h⟩ := P a0 a1 w0 w1
 refine (galoislaw01_NaturalSums.calls k a0 a1 true w h).mono ?_
 rintro e w' ⟨rfl, hd⟩
 exact ⟨rfl, hd⟩
end Go.Proofs.Ytohkmnbnjacfaaa.All
set_option linter.unusedVariables false
namespace Go.Proofs.YtohkmnbnjacfaaaN
open Go.Proofs.YtohkmnbnjacfaaaW.PrintWords
def vB (B : Int) : List Int → Int
  | [] => 0
  | x :: xs => x + B * vB B xs
def Dig (B : Int) (l : List Int) : Prop := ∀ x, x ∈ l → 0 ≤ x ∧ x < B
def Trim (l : List Int) : Prop := 0 < l.length → rd l (l.length - 1 : Nat) ≠ 0
theorem vB_cons (B x : Int) (xs : List Int) : vB B (x :: xs) = x + B * vB B xs := rfl
theorem Dig_nil (B : Int) : Dig B [] := fun _ h => absurd h (List.not_mem_nil)
theorem Dig_cons {B x : Int} {xs : List Int} : Dig B (x :: xs) ↔ (0 ≤ x ∧ x < B) ∧ Dig B xs := by
  constructor
  · intro h
    exact ⟨h x (List.mem_cons_self), fun y hy => h y (List.mem_cons_of_mem _ hy)⟩
  · rintro ⟨h1, h2⟩ y hy
    rcases List.mem_cons.1 hy with rfl | hy
    · exact h1
    · exact h2 y hy
theorem Dig_append {B : Int} {xs ys : List Int} (hx : Dig B xs) (hy : Dig B ys) : Dig B (xs ++ ys) := by
  intro z hz
  rcases List.mem_append.1 hz with h | h
  · exact hx z h
  · exact hy z h
theorem Dig_take {B : Int} {xs : List Int} (h : Dig B xs) (n : Nat) : Dig B (xs.take n) := fun z hz => h z (List.mem_of_mem_take hz)
theorem Dig_drop {B : Int} {xs : List Int} (h : Dig B xs) (n : Nat) : Dig B (xs.drop n) := fun z hz => h z (List.mem_of_mem_drop hz)
theorem Dig_set {B : Int} {xs : List Int} (h : Dig B xs) (n : Nat) {v : Int} (h0 : 0 ≤ v) (h1 : v < B) : Dig B (xs.set n v) := by
  intro z hz
  rcases List.mem_or_eq_of_mem_set hz with hz | rfl
  · exact h z hz
  · exact ⟨h0, h1⟩
theorem Dig_replicate {B : Int} (hB : 0 < B) (n : Nat) : Dig B (List.replicate n 0) := by
  intro z hz
  rw [List.eq_of_mem_replicate hz]
  exact ⟨Int.le_refl _, hB⟩
theorem Dig_reverse {B : Int} {xs : List Int} (h : Dig B xs) : Dig B xs.reverse := fun z hz => h z (List.mem_reverse.1 hz)
theorem rd_nat (xs : List Int) (n : Nat) : rd xs (n : Int) = xs.getD n 0 := by simp [rd]
theorem rd_get (xs : List Int) (n : Nat) (h : n < xs.length) : rd xs (n : Int) = xs[n] := by
  rw [rd_nat, List.getD_eq_getElem?_getD, List.getElem?_eq_getElem h]
  rfl
theorem Dig_rd {B : Int} {xs : List Int} (h : Dig B xs) (n : Nat) (hn : n < xs.length) : 0 ≤ rd xs (n : Int) ∧ rd xs (n : Int) < B := by
  rw [rd_get xs n hn]
  exact h _ (List.getElem_mem hn)
theorem Dig_rd0 {B : Int} (hB : 0 < B) {xs : List Int} (h : Dig B xs) (n : Nat) : 0 ≤ rd xs (n : Int) ∧ rd xs (n : Int) < B := by
  rcases Nat.lt_or_ge n xs.length with hn | hn
  · exact Dig_rd h n hn
  · rw [rd_nat, List.getD_eq_getElem?_getD, List.getElem?_eq_none hn]
    exact ⟨Int.le_refl _, hB⟩
theorem vB_append (B : Int) (xs ys : List Int) : vB B (xs ++ ys) = vB B xs + B ^ xs.length * vB B ys := by
  induction xs with
  | nil => simp [vB]
  | cons x xs ih =>
    rw [List.cons_append, vB_cons, ih, vB_cons, List.length_cons, Int.pow_succ, Int.mul_add, ← Int.add_assoc, ← Int.mul_assoc, Int.mul_comm B (B ^ xs.length)]
theorem vB_replicate (B : Int) (n : Nat) : vB B (List.replicate n 0) = 0 := by
  induction n with
  | zero => rfl
  | succ n ih => rw [List.replicate_succ, vB_cons, ih]; simp
theorem vB_nonneg {B : Int} (hB : 0 ≤ B) {l : List Int} (h : Dig B l) : 0 ≤ vB B l := by
  induction l with
  | nil => exact Int.le_refl _
  | cons x xs ih =>
    have := Dig_cons.1 h
    rw [vB_cons]
    exact Int.add_nonneg this.1.1 (Int.mul_nonneg hB (ih this.2))
theorem vB_lt {B : Int} (hB : 0 < B) {l : List Int} (h : Dig B l) : vB B l < B ^ l.length := by
  induction l with
  | nil => simp [vB]
  | cons x xs ih =>
    have hd := Dig_cons.1 h
    have h1 := ih hd.2
    rw [vB_cons, List.length_cons, Int.pow_succ, Int.mul_comm (B ^ xs.length) B]
    have h2 : B * (vB B xs + 1) ≤ B * B ^ xs.length := Int.mul_le_mul_of_nonneg_left (by omega) (by omega)
    rw [Int.mul_add, Int.mul_one] at h2
    omega
theorem vB_split (B : Int) (l : List Int) (n : Nat) (h : n ≤ l.length) : vB B l = vB B (l.take n) + B ^ n * vB B (l.drop n) := by
  conv => lhs; rw [← List.take_append_drop n l]
  rw [vB_append, List.length_take, Nat.min_eq_left h]
theorem vB_take_succ (B : Int) (l : List Int) (n : Nat) (h : n < l.length) : vB B (l.take (n + 1)) = vB B (l.take n) + B ^ n * rd l (n : Int) := by
  rw [List.take_succ_eq_append_getElem h, vB_append, List.length_take, Nat.min_eq_left (by omega), rd_get l n h]
  simp [vB]
theorem vB_set (B : Int) (l : List Int) (n : Nat) (v : Int) (h : n < l.length) : vB B (l.set n v) = vB B l + B ^ n * (v - rd l (n : Int)) := by
  induction l generalizing n with
  | nil => simp at h
  | cons x xs ih =>
    cases n with
    | zero => simp [vB, rd]; omega
    | succ n =>
      have h' : n < xs.length := by simpa using h
      rw [List.set_cons_succ, vB_cons, ih n h', vB_cons]
      have : rd (x :: xs) ((n + 1 : Nat) : Int) = rd xs (n : Int) := by rw [rd_nat, rd_nat]; simp
      rw [this, Int.pow_succ, Int.mul_add, ← Int.add_assoc, ← Int.mul_assoc, Int.mul_comm B (B ^ n)]
theorem rd_set_self (l : List Int) (n : Nat) (v : Int) (h : n < l.length) : rd (l.set n v) (n : Int) = v := by
  rw [rd_get _ n (by simpa using h), List.getElem_set_self]
theorem rd_set_ne (l : List Int) (n m : Nat) (v : Int) (h : n ≠ m) : rd (l.set n v) (m : Int) = rd l (m : Int) := by
  rw [rd_nat, rd_nat, List.getD_eq_getElem?_getD, List.getD_eq_getElem?_getD, List.getElem?_set_ne h]
theorem rd_take (xs : List Int) (n m : Nat) (h : m < n) : rd (xs.take n) (m : Int) = rd xs (m : Int) := by
  rw [rd_nat, rd_nat, List.getD_eq_getElem?_getD, List.getD_eq_getElem?_getD, List.getElem?_take_of_lt h]
theorem rd_drop (xs : List Int) (n m : Nat) : rd (xs.drop n) (m : Int) = rd xs ((n + m : Nat) : Int) := by
  rw [rd_nat, rd_nat, List.getD_eq_getElem?_getD, List.getD_eq_getElem?_getD, List.getElem?_drop]
theorem rd_replicate (n m : Nat) : rd (List.replicate n 0) (m : Int) = 0 := by
  rw [rd_nat, List.getD_eq_getElem?_getD, List.getElem?_replicate]
  split <;> rfl
theorem dig_inj {B : Int} (hB : 0 < B) : ∀ {l m : List Int}, Dig B l → Dig B m → l.length = m.length → vB B l = vB B m → l = m
  | [], [], _, _, _, _ => rfl
  | [], y :: ys, _, _, h, _ => by simp at h
  | x :: xs, [], _, _, h, _ => by simp at h
  | x :: xs, y :: ys, hl, hm, h, hv => by
    have h1 := Dig_cons.1 hl
    have h2 := Dig_cons.1 hm
    rw [vB_cons, vB_cons] at hv
    have hx : x = y := by
      have e1 : (x + B * vB B xs) % B = x := by rw [Int.add_mul_emod_self_left, Int.emod_eq_of_lt h1.1.1 h1.1.2]
      have e2 : (y + B * vB B ys) % B = y := by rw [Int.add_mul_emod_self_left, Int.emod_eq_of_lt h2.1.1 h2.1.2]
      rw [← e1, ← e2, hv]
    subst hx
    have hv' : B * vB B xs = B * vB B ys := by omega
    have := Int.eq_of_mul_eq_mul_left (by omega) hv'
    rw [dig_inj hB h1.2 h2.2 (by simpa using h) this]
theorem trim_le {B : Int} (hB : 0 < B) {l : List Int} (h : Dig B l) (ht : Trim l) (hp : 0 < l.length) : B ^ (l.length - 1) ≤ vB B l := by
  have e : l.take (l.length - 1 + 1) = l := List.take_of_length_le (by omega)
  have h1 := vB_take_succ B l (l.length - 1) (by omega)
  rw [e] at h1
  rw [h1]
  have h2 := vB_nonneg (Int.le_of_lt hB) (Dig_take h (l.length - 1))
  have h3 := (Dig_rd h (l.length - 1) (by omega)).1
  have h4 : 1 ≤ rd l ((l.length - 1 : Nat) : Int) := by have := ht hp; omega
  have h5 : B ^ (l.length - 1) * 1 ≤ B ^ (l.length - 1) * rd l ((l.length - 1 : Nat) : Int) := Int.mul_le_mul_of_nonneg_left h4 (Int.le_of_lt (Int.pow_pos hB))
  rw [Int.mul_one] at h5
  omega
theorem pow_le_pow {B : Int} (hB : 0 < B) {m n : Nat} (h : m ≤ n) : B ^ m ≤ B ^ n := by
  obtain ⟨j, rfl⟩ : ∃ j, n = m + j := ⟨n - m, by omega⟩
  rw [Int.pow_add]
  have h1 : 1 ≤ B ^ j := by have : 0 < B ^ j := Int.pow_pos hB; omega
  have h2 : B ^ m * 1 ≤ B ^ m * B ^ j := Int.mul_le_mul_of_nonneg_left h1 (Int.le_of_lt (Int.pow_pos hB))
  rwa [Int.mul_one] at h2
theorem trim_len {B : Int} (hB : 0 < B) {l m : List Int} (hl : Dig B l) (hm : Dig B m) (ht : Trim m) (h : l.length < m.length) : vB B l < vB B m := by
  have h1 := vB_lt hB hl
  have h2 := trim_le hB hm ht (by omega)
  have h3 := pow_le_pow hB (show l.length ≤ m.length - 1 by omega)
  omega
theorem trim_inj {B : Int} (hB : 0 < B) {l m : List Int} (hl : Dig B l) (hm : Dig B m) (tl : Trim l) (tm : Trim m) (hv : vB B l = vB B m) : l = m := by
  rcases Nat.lt_trichotomy l.length m.length with h | h | h
  · have := trim_len hB hl hm tm h; omega
  · exact dig_inj hB hl hm h hv
  · have := trim_len hB hm hl tl h; omega
def dgs (b : Nat) (n : Nat) : List Int :=
  if h : n = 0 then [] else ((n % (b + 2) : Nat) : Int) :: dgs b (n / (b + 2))
termination_by n
decreasing_by exact Nat.div_lt_self (by omega) (by omega)
theorem dgs_zero (b : Nat) : dgs b 0 = [] := by rw [dgs]; simp
theorem dgs_pos (b n : Nat) (h : n ≠ 0) : dgs b n = ((n % (b + 2) : Nat) : Int) :: dgs b (n / (b + 2)) := by rw [dgs]; simp [h]
theorem dgs_spec (b : Nat) : ∀ n, Dig (b + 2 : Nat) (dgs b n) ∧ Trim (dgs b n) ∧ vB (b + 2 : Nat) (dgs b n) = n := by
  intro n
  induction n using Nat.strongRecOn with
  | _ n ih =>
    by_cases h : n = 0
    · subst h
      rw [dgs_zero]
      exact ⟨Dig_nil _, fun h => absurd h (by simp), rfl⟩
    · obtain ⟨h1, h2, h3⟩ := ih (n / (b + 2)) (Nat.div_lt_self (by omega) (by omega))
      rw [dgs_pos b n h]
      have hm := Nat.mod_lt n (show 0 < b + 2 by omega)
      have hd := Nat.div_add_mod n (b + 2)
      refine ⟨Dig_cons.2 ⟨⟨by omega, by omega⟩, h1⟩, ?_, ?_⟩
      · intro _
        by_cases hz : n / (b + 2) = 0
        · rw [hz, dgs_zero]
          show rd [((n % (b + 2) : Nat) : Int)] ((0 : Nat) : Int) ≠ 0
          rw [hz] at hd
          have : ((n % (b + 2) : Nat) : Int) ≠ 0 := by omega
          simpa [rd] using this
        · have hl : 0 < (dgs b (n / (b + 2))).length := by rw [dgs_pos _ _ hz]; simp
          have := h2 hl
          rw [List.length_cons, Nat.add_sub_cancel]
          obtain ⟨q, hq⟩ : ∃ q, (dgs b (n / (b + 2))).length = q + 1 := ⟨(dgs b (n / (b + 2))).length - 1, by omega⟩
          rw [hq] at this ⊢
          rw [rd_nat] at this ⊢
          simpa using this
      · rw [vB_cons, h3]
        have : ((b + 2 : Nat) : Int) * ((n / (b + 2) : Nat) : Int) + ((n % (b + 2) : Nat) : Int) = n := by exact_mod_cast hd
        omega
theorem dgs_unique {b : Nat} {l : List Int} {n : Nat} (hl : Dig (b + 2 : Nat) l) (ht : Trim l) (hv : vB (b + 2 : Nat) l = n) : l = dgs b n := by
  obtain ⟨h1, h2, h3⟩ := dgs_spec b n
  exact trim_inj (by omega) hl h1 ht h2 (by rw [hv, h3])
theorem dgs_len {b n k : Nat} (h : n < (b + 2) ^ k) : (dgs b n).length ≤ k := by
  obtain ⟨h1, h2, h3⟩ := dgs_spec b n
  rcases Nat.lt_or_ge k (dgs b n).length with hk | hk
  · have h4 := trim_le (by omega) h1 h2 (by omega)
    rw [h3] at h4
    have h5 := pow_le_pow (B := ((b + 2 : Nat) : Int)) (by omega) (show k ≤ (dgs b n).length - 1 by omega)
    have h6 : ((n : Nat) : Int) < ((b + 2 : Nat) : Int) ^ k := by exact_mod_cast h
    omega
  · exact hk
theorem dgs_lt (b n : Nat) : n < (b + 2) ^ (dgs b n).length := by
  obtain ⟨h1, h2, h3⟩ := dgs_spec b n
  have := vB_lt (by omega) h1
  rw [h3] at this
  exact_mod_cast this
end Go.Proofs.YtohkmnbnjacfaaaN
set_option linter.unusedVariables false
namespace Go.Proofs.YtohkmnbnjacfaaaN
open Go.RowKit Go.Proofs.Ytohkmnbnjacfaaa.All Go.Proofs.YtohkmnbnjacfaaaW.PrintWords Go.Proofs.YtohkmnbnjacfaaaW.PrintLast Go.Proofs.YtohkmnbnjacfaaaW.PrintMore
theorem w64 {x : Int} (h0 : -9223372036854775808 ≤ x) (h1 : x < 9223372036854775808) : wrap64 x = x := by unfold wrap64; omega
theorem u64 {x : Int} (h0 : 0 ≤ x) (h1 : x < 18446744073709551616) : IntKind.u64.wrap x = x := by
  simp [IntKind.wrap, IntKind.bits, IntKind.signed]
  omega
theorem u64_mod (x : Int) : IntKind.u64.wrap x = x % 18446744073709551616 := by simp [IntKind.wrap, IntKind.bits, IntKind.signed]
abbrev B64 : Int := 18446744073709551616
def d64 (n : Nat) : List Int := dgs 18446744073709551614 n
theorem d64_dig (n : Nat) : Dig B64 (d64 n) := (dgs_spec 18446744073709551614 n).1
theorem d64_val (n : Nat) : vB B64 (d64 n) = n := (dgs_spec 18446744073709551614 n).2.2
theorem d64_unique {l : List Int} {n : Nat} (hl : Dig B64 l) (ht : Trim l) (hv : vB B64 l = n) : l = d64 n := dgs_unique hl ht hv
theorem d64_zero : d64 0 = [] := dgs_zero _
def d8 (n : Nat) : List Int := dgs 254 n
theorem d8_dig (n : Nat) : Dig 256 (d8 n) := (dgs_spec 254 n).1
theorem d8_trim (n : Nat) : Trim (d8 n) := (dgs_spec 254 n).2.1
theorem d8_val (n : Nat) : vB 256 (d8 n) = n := (dgs_spec 254 n).2.2
theorem d8_unique {l : List Int} {n : Nat} (hl : Dig 256 l) (ht : Trim l) (hv : vB 256 l = n) : l = d8 n := dgs_unique hl ht hv
def nat (n : Nat) : ByteArray := strOfNums (d8 n).reverse
theorem bytesOf_str {l : List Int} (h : Dig 256 l) : bytesOf (strOfNums l) = l := by
  unfold bytesOf
  rw [strOfNums_data, List.map_map]
  conv => rhs; rw [← List.map_id l]
  refine List.map_congr_left fun x hx => ?_
  have := h x hx
  simp [UInt8.toNat_ofNat']
  omega
theorem str_bytesOf (s : ByteArray) : strOfNums (bytesOf s) = s := by
  unfold strOfNums bytesOf
  rw [List.map_map]
  have : List.map ((fun n : Int => UInt8.ofNat n.toNat) ∘ fun b : UInt8 => (b.toNat : Int)) s.data.toList = s.data.toList := by
    conv => rhs; rw [← List.map_id s.data.toList]
    refine List.map_congr_left fun x _ => ?_
    simp
  rw [this]
theorem bytesOf_dig (s : ByteArray) : Dig 256 (bytesOf s) := by
  intro x hx
  unfold bytesOf at hx
  obtain ⟨b, _, rfl⟩ := List.mem_map.1 hx
  have := b.toNat_lt
  omega
theorem str_ext {s t : ByteArray} (h : bytesOf s = bytesOf t) : s = t := by rw [← str_bytesOf s, h, str_bytesOf]
theorem toList_ext {s t : ByteArray} : s.toList = t.toList ↔ s = t := by
  constructor
  · intro h
    rw [ByteArray.toList_eq, ByteArray.toList_eq] at h
    cases s
    cases t
    congr
    exact Array.toList_inj.1 h
  · rintro rfl; rfl
theorem toList_nil {s : ByteArray} : s.toList = [] ↔ s.size = 0 := by
  rw [ByteArray.toList_eq, ← List.length_eq_zero_iff, data_length]
theorem nat_bytes (n : Nat) : bytesOf (nat n) = (d8 n).reverse := bytesOf_str (Dig_reverse (d8_dig n))
theorem nat_size (n : Nat) : (nat n).size = (d8 n).length := by rw [← bytesOf_length, nat_bytes, List.length_reverse]
def bval (s : ByteArray) : Int := vB 256 (bytesOf s).reverse
theorem bval_nat (n : Nat) : bval (nat n) = n := by unfold bval; rw [nat_bytes, List.reverse_reverse, d8_val]
theorem bval_nonneg (s : ByteArray) : 0 ≤ bval s := vB_nonneg (by decide) (Dig_reverse (bytesOf_dig s))
theorem nat_inj {m n : Nat} : nat m = nat n ↔ m = n := by
  constructor
  · intro h
    have := bval_nat m
    rw [h, bval_nat] at this
    omega
  · rintro rfl; rfl
theorem rd_reverse (l : List Int) (n : Nat) (h : n < l.length) : rd l.reverse (n : Int) = rd l ((l.length - 1 - n : Nat) : Int) := by
  rw [rd_get _ n (by simpa using h), rd_get _ _ (by omega), List.getElem_reverse]
theorem bt_rd (s : ByteArray) (i : Int) : bt s i = rd (bytesOf s) i := (rd_bytesOf s i).symm
theorem wf_nat {s : ByteArray} (h : s.size = 0 ∨ bt s 0 ≠ 0) : s = nat (bval s).toNat := by
  apply str_ext
  rw [nat_bytes]
  have ht : Trim (bytesOf s).reverse := by
    intro hp
    rw [List.length_reverse] at hp ⊢
    rw [rd_reverse _ _ (by omega), bt_rd] at *
    rw [bytesOf_length] at hp
    have e : (bytesOf s).length - 1 - ((bytesOf s).length - 1) = 0 := by omega
    rw [e]
    rcases h with h | h
    · omega
    · exact h
  have := d8_unique (n := (bval s).toNat) (Dig_reverse (bytesOf_dig s)) ht (by have := bval_nonneg s; unfold bval at this ⊢; omega)
  rw [← this, List.reverse_reverse]
theorem nat_wf (n : Nat) : (nat n).size = 0 ∨ bt (nat n) 0 ≠ 0 := by
  rcases Nat.eq_zero_or_pos (d8 n).length with h | h
  · left; rw [nat_size, h]
  · right
    rw [bt_rd, nat_bytes]
    have := d8_trim n h
    have e := rd_reverse (d8 n) 0 (by omega)
    rw [show (d8 n).length - 1 - 0 = (d8 n).length - 1 by omega] at e
    rw [← e] at this
    exact this
theorem nat_zero : nat 0 = ⟨#[]⟩ := by unfold nat d8; rw [dgs_zero]; rfl
theorem nat_size_zero {n : Nat} : (nat n).size = 0 ↔ n = 0 := by
  constructor
  · intro h
    rw [nat_size] at h
    have := d8_val n
    rw [List.eq_nil_of_length_eq_zero h] at this
    simp [vB] at this
    omega
  · rintro rfl; rw [nat_zero]; rfl
theorem nat_size_le {n k : Nat} : (nat n).size ≤ k ↔ n < 256 ^ k := by
  rw [nat_size]
  constructor
  · intro h
    exact Nat.lt_of_lt_of_le (dgs_lt 254 n) (Nat.pow_le_pow_right (by decide) h)
  · intro h
    exact dgs_len h
theorem nat_lt_size (n : Nat) : n < 256 ^ (nat n).size := nat_size_le.1 (Nat.le_refl _)
theorem vB_zero (B : Int) : ∀ {l : List Int}, (∀ j : Nat, j < l.length → rd l (j : Int) = 0) → vB B l = 0
  | [], _ => rfl
  | x :: xs, h => by
    have h0 : x = 0 := h 0 (by simp)
    have := vB_zero B (l := xs) (fun j hj => by
      have := h (j + 1) (by simpa using hj)
      rw [rd_nat] at this ⊢
      simpa using this)
    rw [vB_cons, h0, this]
    simp
theorem vB_low (B : Int) {l : List Int} {n : Nat} (hn : n ≤ l.length) (h : ∀ j : Nat, n ≤ j → j < l.length → rd l (j : Int) = 0) : vB B l = vB B (l.take n) := by
  rw [vB_split B l n hn, vB_zero B (l := l.drop n) (fun j hj => by rw [rd_drop]; exact h _ (by omega) (by simp at hj; omega))]
  simp
theorem trim_l0 (l : List Int) (hd : Dig B64 l) (hl : l.length < 9223372036854775808) : ∀ n : Nat, n ≤ l.length → (∀ j : Nat, n ≤ j → j < l.length → rd l (j : Int) = 0) → Ev (fun k => exact_trim.l0 k l (n : Int)) (d64 (vB B64 l).toNat) := by
  have hv := vB_nonneg (by decide) hd
  intro n
  induction n with
  | zero =>
    intro hn h
    refine Ev.step (f := fun _ => some (d64 (vB B64 l).toNat)) (fun k => ?_) (Ev.now _)
    simp only [exact_trim.l0]
    rw [if_neg (by omega), if_pos (by omega), if_pos (by omega)]
    have := vB_low B64 hn h
    rw [this]
    simp [vB, d64_zero]
  | succ n ih =>
    intro hn h
    have e1 : wrap64 (((n + 1 : Nat) : Int) - 1) = (n : Int) := by rw [w64 (by omega) (by omega)]; omega
    by_cases hz : rd l (n : Int) = 0
    · refine Ev.step (f := fun k => exact_trim.l0 k l (n : Int)) (fun k => ?_) (ih (by omega) (fun j hj hjl => ?_))
      · simp only [exact_trim.l0, e1]
        rw [if_pos (by omega), if_pos (by omega), if_pos (by omega), if_pos hz]
      · rcases Nat.lt_or_ge n j with hlt | hge
        · exact h j hlt hjl
        · have : j = n := by omega
          subst this
          exact hz
    · refine Ev.step (f := fun _ => some (d64 (vB B64 l).toNat)) (fun k => ?_) (Ev.now _)
      simp only [exact_trim.l0, e1]
      rw [if_pos (by omega), if_pos (by omega), if_pos (by omega), if_neg hz, if_pos (by omega), if_pos (by omega)]
      congr 1
      have hlen : (l.take (n + 1)).length = n + 1 := by rw [List.length_take]; omega
      refine d64_unique (Dig_take hd _) (fun _ => ?_) ?_
      · rw [Int.toNat_natCast, hlen, Nat.add_sub_cancel, rd_take l _ _ (by omega)]
        exact hz
      · rw [Int.toNat_natCast, ← vB_low B64 hn h]
        omega
theorem trim_ev {l : List Int} (hd : Dig B64 l) (hl : l.length < 9223372036854775808) : Ev (fun k => exact_trim.f k l) (d64 (vB B64 l).toNat) :=
  trim_l0 l hd hl l.length (Nat.le_refl _) (fun j h1 h2 => absurd h1 (by omega))
end Go.Proofs.YtohkmnbnjacfaaaN
set_option linter.unusedVariables false
namespace Go.Proofs.YtohkmnbnjacfaaaN
open Go.RowKit Go.Proofs.Ytohkmnbnjacfaaa.All Go.Proofs.YtohkmnbnjacfaaaW.PrintWords Go.Proofs.YtohkmnbnjacfaaaW.PrintLast Go.Proofs.YtohkmnbnjacfaaaW.PrintMore
theorem wraps_u64 (n : Int) (h0 : 0 ≤ n) (h1 : n < 2 ^ 64) : IntKind.u64.wrap n = n := u64 h0 (by simpa using h1)
theorem pow8 (q r : Nat) : (B64 : Int) ^ q * 256 ^ r = 256 ^ (8 * q + r) := by
  have e : (256 : Int) ^ 8 = B64 := rfl
  rw [Int.pow_add, Int.pow_mul, e]
theorem high_succ (s : ByteArray) (i : Nat) (h : i < s.size) : vB 256 ((bytesOf s).take (i + 1)).reverse = bt s i + 256 * vB 256 ((bytesOf s).take i).reverse := by
  rw [List.take_succ_eq_append_getElem (by rw [bytesOf_length]; exact h), List.reverse_append, bt_rd, rd_get _ i (by rw [bytesOf_length]; exact h)]
  rfl
theorem high_all (s : ByteArray) : vB 256 ((bytesOf s).take s.size).reverse = bval s := by
  rw [List.take_of_length_le (by rw [bytesOf_length]; exact Nat.le_refl _)]
  rfl
theorem word_or (x c : Int) (r : Nat) (hr : r < 8) (hx0 : 0 ≤ x) (hx1 : x < B64) (hm : x % 256 ^ (r + 1) = 0) (hc0 : 0 ≤ c) (hc1 : c ≤ 255) :
    Go.bits .or .u64 x (shl .u64 (IntKind.u64.wrap c) (8 * r : Nat)) = x + c * 256 ^ r ∧ 0 ≤ x + c * 256 ^ r ∧ x + c * 256 ^ r < B64 ∧ (x + c * 256 ^ r) % 256 ^ r = 0 := by
  have h64 : (B64 : Int) = 18446744073709551616 := rfl
  have hs : shl .u64 (IntKind.u64.wrap c) (8 * r : Nat) = c * 256 ^ r := by
    unfold shl
    rw [u64 hc0 (by omega), Int.toNat_natCast]
    have : min (8 * r) IntKind.u64.bits = 8 * r := Nat.min_eq_left (by show 8 * r ≤ 64; omega)
    rw [this, Int.pow_mul]
    have e : (2 : Int) ^ 8 = 256 := rfl
    rw [e]
    apply u64
    · exact Int.mul_nonneg hc0 (Int.le_of_lt (Int.pow_pos (by decide)))
    · have : r = 0 ∨ r = 1 ∨ r = 2 ∨ r = 3 ∨ r = 4 ∨ r = 5 ∨ r = 6 ∨ r = 7 := by omega
      rcases this with rfl | rfl | rfl | rfl | rfl | rfl | rfl | rfl <;> omega
  rw [hs]
  have hb : 0 ≤ c * 256 ^ r ∧ c * 256 ^ r < 256 ^ (r + 1) ∧ 0 ≤ x + c * 256 ^ r ∧ x + c * 256 ^ r < B64 ∧ (x + c * 256 ^ r) % 256 ^ r = 0 ∧ c * 256 ^ r < 2 ^ 64 := by
    have : r = 0 ∨ r = 1 ∨ r = 2 ∨ r = 3 ∨ r = 4 ∨ r = 5 ∨ r = 6 ∨ r = 7 := by omega
    rcases this with rfl | rfl | rfl | rfl | rfl | rfl | rfl | rfl <;> (clear hs; simp only [B64] at hx1 ⊢; omega)
  refine ⟨?_, hb.2.2.1, hb.2.2.2.1, hb.2.2.2.2.1⟩
  have hp : (2 : Int) ^ (8 * (r + 1)) = 256 ^ (r + 1) := by rw [Int.pow_mul]; rfl
  exact bits_join .u64 64 (by decide) wraps_u64 (8 * (r + 1)) x (c * 256 ^ r) hx0 (by rw [hp]; exact hm) (by rw [h64] at hx1; simpa using hx1) hb.1 (by rw [hp]; exact hb.2.1) hb.2.2.2.2.2
theorem words_l0 (s : ByteArray) (hs : s.size ≤ 1099511627776) : ∀ (d i : Nat) (w : List Int), i + d = s.size → w.length = (s.size + 7) / 8 → Dig B64 w → vB B64 w = vB 256 ((bytesOf s).take i).reverse * 256 ^ d →
    (0 < d → rd w ((d - 1) / 8 : Nat) % 256 ^ ((d - 1) % 8 + 1) = 0 ∧ ∀ q : Nat, q < (d - 1) / 8 → rd w (q : Int) = 0) → Ev (fun k => exact_words.l0 k s w (s.size : Int) (i : Int)) (d64 (bval s).toNat) := by
  intro d
  induction d with
  | zero =>
    intro i w hi hl hd hv _
    have hi : i = s.size := by omega
    subst hi
    have hv' : vB B64 w = bval s := by rw [hv, high_all]; simp
    refine Ev.step (f := fun k => (exact_trim.f k w).bind fun t => some t) (fun k => ?_) (Ev.bind (trim_ev hd (by omega)) ?_)
    · simp only [exact_words.l0]
      rw [if_neg (by omega)]
    · rw [hv']
      exact Ev.now _
  | succ d ih =>
    intro i w hi hl hd hv hz
    obtain ⟨hz1, hz2⟩ := hz (by omega)
    rw [Nat.add_sub_cancel] at hz1 hz2
    have hq : d / 8 < w.length := by omega
    have hr : d % 8 < 8 := Nat.mod_lt _ (by decide)
    have e1 : wrap64 (Int.tdiv (wrap64 (wrap64 ((s.size : Int) - 1) - (i : Int))) 8) = ((d / 8 : Nat) : Int) := by
      rw [w64 (x := (s.size : Int) - 1) (by omega) (by omega), w64 (x := (s.size : Int) - 1 - (i : Int)) (by omega) (by omega)]
      have : (s.size : Int) - 1 - (i : Int) = (d : Int) := by omega
      rw [this, Int.tdiv_eq_ediv_of_nonneg (by omega), w64 (by omega) (by omega)]
      omega
    have e2 : wrap64 (8 * Int.tmod (wrap64 (wrap64 ((s.size : Int) - 1) - (i : Int))) 8) = ((8 * (d % 8) : Nat) : Int) := by
      rw [w64 (x := (s.size : Int) - 1) (by omega) (by omega), w64 (x := (s.size : Int) - 1 - (i : Int)) (by omega) (by omega)]
      have : (s.size : Int) - 1 - (i : Int) = (d : Int) := by omega
      rw [this, Int.tmod_eq_emod_of_nonneg (by omega), w64 (by omega) (by omega)]
      omega
    have e3 : wrap64 ((i : Int) + 1) = ((i + 1 : Nat) : Int) := by rw [w64 (by omega) (by omega)]; omega
    have c1 : (i : Int) < (s.size : Int) := by omega
    have c3 : ((d / 8 : Nat) : Int) < (w.length : Int) := Int.ofNat_lt.2 hq
    have c4 : 0 < (d / 8 : Nat) → d % 8 = 0 → (d - 1) / 8 = d / 8 - 1 := by omega
    have hi' : i + 1 + d = s.size := by omega
    obtain ⟨hx0, hx1⟩ := Dig_rd hd (d / 8) hq
    obtain ⟨hc0, hc1⟩ := bt_range s (i : Int)
    obtain ⟨ho, ho0, ho1, ho2⟩ := word_or (rd w ((d / 8 : Nat) : Int)) (bt s (i : Int)) (d % 8) hr hx0 hx1 hz1 hc0 hc1
    have hk : 8 * (d / 8) + d % 8 = d := Nat.div_add_mod d 8
    refine Ev.step (f := fun k => exact_words.l0 k s (w.set (d / 8) (rd w ((d / 8 : Nat) : Int) + bt s (i : Int) * 256 ^ (d % 8))) (s.size : Int) ((i + 1 : Nat) : Int)) (fun k => ?_) (ih (i + 1) _ hi' (by rw [List.length_set]; exact hl) (Dig_set hd _ ho0 ho1) ?_ ?_)
    · simp only [exact_words.l0, e1, e2, e3]
      rw [if_pos c1, if_pos (Int.natCast_nonneg _), if_pos c3, if_pos (Int.natCast_nonneg _), if_pos c1, if_pos (Int.natCast_nonneg _), ho, Int.toNat_natCast]
    · rw [vB_set _ _ _ _ hq, hv, high_succ s i (by omega)]
      have e : rd w ((d / 8 : Nat) : Int) + bt s (i : Int) * 256 ^ (d % 8) - rd w ((d / 8 : Nat) : Int) = 256 ^ (d % 8) * bt s (i : Int) := by
        rw [Int.mul_comm (256 ^ (d % 8))]; omega
      rw [e, ← Int.mul_assoc, pow8, hk, Int.pow_succ, Int.add_mul]
      generalize vB 256 ((bytesOf s).take i).reverse = H
      generalize (256 : Int) ^ d = P
      generalize bt s (i : Int) = c
      rw [Int.mul_comm P c, Int.add_comm, Int.mul_assoc 256 H P, Int.mul_comm P 256, ← Int.mul_assoc H 256 P, Int.mul_comm H 256, Int.mul_assoc 256 H P]
    · intro hd0
      by_cases h0 : d % 8 = 0
      · have h1 : (d - 1) / 8 = d / 8 - 1 := by omega
        have h2 : 0 < d / 8 := by omega
        rw [h1]
        refine ⟨?_, fun q hq' => ?_⟩
        · rw [rd_set_ne _ _ _ _ (by omega), hz2 _ (by omega)]
          simp
        · rw [rd_set_ne _ _ _ _ (by omega), hz2 _ (by omega)]
      · have h1 : (d - 1) / 8 = d / 8 := by omega
        have h2 : (d - 1) % 8 + 1 = d % 8 := by omega
        rw [h1, h2]
        refine ⟨?_, fun q hq' => ?_⟩
        · rw [rd_set_self _ _ _ hq]
          exact ho2
        · rw [rd_set_ne _ _ _ _ (by omega), hz2 _ (by omega)]
theorem words_ev (s : ByteArray) (hs : s.size ≤ 1099511627776) : Ev (fun k => exact_words.f k s) (d64 (bval s).toNat) := by
  have e1 : wrap64 (Int.tdiv (wrap64 ((s.size : Int) + 7)) 8) = (((s.size + 7) / 8 : Nat) : Int) := by
    rw [w64 (x := (s.size : Int) + 7) (by omega) (by omega), Int.tdiv_eq_ediv_of_nonneg (by omega), w64 (by omega) (by omega)]
    omega
  refine Ev.congr (f := fun k => exact_words.l0 k s (List.replicate ((s.size + 7) / 8) 0) (s.size : Int) ((0 : Nat) : Int)) (fun k => ?_) (words_l0 s hs s.size 0 _ (by omega) (by simp) (Dig_replicate (by decide) _) ?_ ?_)
  · unfold exact_words.f
    rw [e1, if_pos (by omega), Int.toNat_natCast, if_pos (by omega)]
    rfl
  · rw [vB_replicate]
    simp [vB]
  · intro _
    exact ⟨by rw [rd_replicate]; simp, fun q _ => rd_replicate _ _⟩
theorem words_nat {n : Nat} (hs : (nat n).size ≤ 1099511627776) : Ev (fun k => exact_words.f k (nat n)) (d64 n) := by
  have := words_ev (nat n) hs
  rwa [bval_nat, Int.toNat_natCast] at this
theorem set_reverse (l : List Int) (p : Nat) (v : Int) (h : p < l.length) : (l.set p v).reverse = l.reverse.set (l.length - 1 - p) v := by
  apply List.ext_getElem?
  intro j
  rcases Nat.lt_or_ge j l.length with hj | hj
  · rw [List.getElem?_reverse (by rw [List.length_set]; exact hj), List.length_set, List.getElem?_set, List.getElem?_set, List.length_reverse]
    by_cases e : p = l.length - 1 - j
    · have e' : l.length - 1 - p = j := by omega
      rw [if_pos e, if_pos h, if_pos e', if_pos (by omega)]
    · have e' : ¬ l.length - 1 - p = j := by omega
      rw [if_neg e, if_neg e', List.getElem?_reverse hj]
  · rw [List.getElem?_eq_none (by simp; omega), List.getElem?_eq_none (by simp; omega)]
theorem pack_l2 (b : List Int) (hd : Dig 256 b) (hb : b.length < 9223372036854775807) (n : Nat) (hv : vB 256 b.reverse = n) (hn : n ≠ 0) : ∀ (d i : Nat), i + d = b.length → (∀ j : Nat, j < i → rd b (j : Int) = 0) → Ev (fun k => exact_pack.l2 k b (i : Int)) (nat n) := by
  intro d
  induction d with
  | zero =>
    intro i hi hz
    have := vB_zero 256 (l := b.reverse) (fun j hj => by
      rw [List.length_reverse] at hj
      rw [rd_reverse _ _ hj]
      exact hz _ (by omega))
    omega
  | succ d ih =>
    intro i hi hz
    by_cases h0 : rd b (i : Int) = 0
    · have e1 : wrap64 ((i : Int) + 1) = ((i + 1 : Nat) : Int) := by rw [w64 (by omega) (by omega)]; omega
      refine Ev.step (f := fun k => exact_pack.l2 k b ((i + 1 : Nat) : Int)) (fun k => ?_) (ih (i + 1) (by omega) (fun j hj => ?_))
      · simp only [exact_pack.l2, e1]
        rw [if_pos (by omega), if_pos (by omega), if_pos h0]
      · rcases Nat.lt_or_ge j i with h | h
        · exact hz j h
        · have : j = i := by omega
          subst this
          exact h0
    · refine Ev.step (f := fun _ => some (nat n)) (fun k => ?_) (Ev.now _)
      simp only [exact_pack.l2]
      rw [if_pos (by omega), if_pos (by omega), if_neg h0, if_pos (by omega), Int.toNat_natCast]
      congr 1
      unfold nat
      congr 1
      have hu : (b.drop i).reverse = d8 n := by
        refine d8_unique (Dig_reverse (Dig_drop hd _)) (fun hp => ?_) ?_
        · rw [List.length_reverse] at hp ⊢
          rw [rd_reverse _ _ (by omega), rd_drop]
          have : i + ((b.drop i).length - 1 - ((b.drop i).length - 1)) = i := by omega
          rw [this]
          exact h0
        · rw [← hv]
          conv => rhs; rw [← List.take_append_drop i b]
          rw [List.reverse_append, vB_append, vB_zero 256 (l := (b.take i).reverse) (fun j hj => ?_)]
          · simp
          · rw [List.length_reverse] at hj
            have hl : (b.take i).length = i := by rw [List.length_take]; omega
            rw [rd_reverse _ _ hj, rd_take _ _ _ (by omega)]
            exact hz _ (by omega)
      rw [← hu, List.reverse_reverse]
theorem byte_of (x : Int) (s : Nat) (hs : s < 8) (h0 : 0 ≤ x) (h1 : x < B64) : shr .u64 x ((8 * s : Nat) : Int) % 256 = x / 256 ^ s % 256 := by
  unfold shr
  rw [Int.toNat_natCast]
  have : min (8 * s) IntKind.u64.bits = 8 * s := Nat.min_eq_left (by show 8 * s ≤ 64; omega)
  rw [this, Int.pow_mul]
  rfl
theorem byte_step (x : Int) (s : Nat) (hs : s < 8) (h0 : 0 ≤ x) (h1 : x < B64) : x % 256 ^ (s + 1) = x % 256 ^ s + 256 ^ s * (x / 256 ^ s % 256) := by
  have : s = 0 ∨ s = 1 ∨ s = 2 ∨ s = 3 ∨ s = 4 ∨ s = 5 ∨ s = 6 ∨ s = 7 := by omega
  rcases this with rfl | rfl | rfl | rfl | rfl | rfl | rfl | rfl <;> simp <;> omega
def Packed (w b : List Int) (i s : Nat) : Prop :=
  b.length = 8 * w.length ∧ Dig 256 b ∧ vB 256 b.reverse = vB B64 (w.take i) + B64 ^ i * (rd w (i : Int) % 256 ^ s) ∧ ∀ j : Nat, 8 * i + s ≤ j → rd b.reverse (j : Int) = 0
theorem packed_step {w b : List Int} {i s : Nat} (hw : Dig B64 w) (hi : i < w.length) (hs : s < 8) (h : Packed w b i s) :
    8 * i + s < b.length ∧ Packed w (b.set (b.length - 1 - (8 * i + s)) (rd w (i : Int) / 256 ^ s % 256)) i (s + 1) := by
  obtain ⟨hl, hd, hv, hz⟩ := h
  obtain ⟨hx0, hx1⟩ := Dig_rd hw i hi
  have hlt : 8 * i + s < b.length := by omega
  refine ⟨hlt, by rw [List.length_set]; exact hl, Dig_set hd _ (Int.emod_nonneg _ (by decide)) (Int.emod_lt_of_pos _ (by decide)), ?_, fun j hj => ?_⟩
  · rw [set_reverse _ _ _ (by omega)]
    have e : b.length - 1 - (b.length - 1 - (8 * i + s)) = 8 * i + s := by omega
    rw [e, vB_set _ _ _ _ (by rw [List.length_reverse]; exact hlt), hz _ (Nat.le_refl _), hv, byte_step _ s hs hx0 hx1, Int.sub_zero, Int.mul_add, ← pow8, Int.mul_assoc, Int.add_assoc]
  · rw [set_reverse _ _ _ (by omega)]
    have e : b.length - 1 - (b.length - 1 - (8 * i + s)) = 8 * i + s := by omega
    rw [e, rd_set_ne _ _ _ _ (by omega)]
    exact hz j (by omega)
theorem packed_word {w b : List Int} {i : Nat} (hw : Dig B64 w) (hi : i < w.length) (h : Packed w b i 8) : Packed w b (i + 1) 0 := by
  obtain ⟨hl, hd, hv, hz⟩ := h
  obtain ⟨hx0, hx1⟩ := Dig_rd hw i hi
  refine ⟨hl, hd, ?_, fun j hj => hz j (by omega)⟩
  rw [hv, vB_take_succ _ _ _ hi]
  have : rd w (i : Int) % 256 ^ 8 = rd w (i : Int) := Int.emod_eq_of_lt hx0 hx1
  rw [this]
  simp
end Go.Proofs.YtohkmnbnjacfaaaN
