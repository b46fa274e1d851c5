/- Part of the proof of the statement NaturalQuotients: lemmas on the model's steps, Lean functions that say what the program's functions compute, and proofs that the calls do just that. No hypothesis is added. -/
import Derived.Test.YtohkmnbnjacfaaaKNaturalQuotients3
set_option linter.all false
namespace Go.Proofs.Ytohkmnbnjacfaaa.All
open Go.Proofs.YtohkmnbnjacfaaaX
open Go.RowKit Go.Proofs.YtohkmnbnjacfaaaW.PrintWords Go.Proofs.YtohkmnbnjacfaaaW.PrintLast Go.Proofs.YtohkmnbnjacfaaaW.PrintMore
attribute [local go_sem] max2_int min2_int max_two min_two max_three min_three max_four min_four
set_option linter.unusedVariables false
set_option linter.unusedSimpArgs false
def galoisref01_trim.l0 : Nat → List Int → Option (List Int)
 | 0, _ => none
 | k + 1, x0 => if (x0.length : Int) > 0 then (if 0 ≤ (wrap64 ((x0.length : Int) - 1)) then (if (wrap64 ((x0.length : Int) - 1)) < (x0.length : Int) then (if (rd x0 (wrap64 ((x0.length : Int) - 1))) = 0 then (if (wrap64 ((x0.length : Int) - 1)) ≤ (x0.length : Int) then (galoisref01_trim.l0 k (x0.take ((wrap64 ((x0.length : Int) - 1)) : Int).toNat)) else (none)) else (some x0)) else (none)) else (none)) else (some x0)
def galoisref01_trim.f (k : Nat) (l0 : List Int) : Option (List Int) := galoisref01_trim.l0 k l0
theorem galoisref01_trim.mono_l : ∀ k, (∀ y0, LeO (galoisref01_trim.l0 k y0) (galoisref01_trim.l0 (k + 1) y0))
 | 0 => fun _ r h => by simp [galoisref01_trim.l0] at h
 | k + 1 => by
  have ih0 := galoisref01_trim.mono_l k
  ·intro y0
   unfold galoisref01_trim.l0
   repeat' first
   | (with_reducible exact ih0 _)
   | (with_reducible exact LeO.refl _)
   | (with_reducible exact LeO.none _)
   | (with_reducible refine LeO.ite ?_ ?_)
   | (with_reducible refine LeO.bind ?_ (fun _ => ?_))
   | exact ih0 _
   | exact LeO.none _
   | refine LeO.ite ?_ ?_
   | refine LeO.bind ?_ (fun _ => ?_)
theorem galoisref01_trim.mono : ∀ a0 k, LeO (galoisref01_trim.f k a0) (galoisref01_trim.f (k + 1) a0) := by
 intro a0 k
 have ih0 := galoisref01_trim.mono_l k
 unfold galoisref01_trim.f
 repeat' first
   | (with_reducible exact ih0 _)
   | (with_reducible exact LeO.refl _)
   | (with_reducible exact LeO.none _)
   | (with_reducible refine LeO.ite ?_ ?_)
   | (with_reducible refine LeO.bind ?_ (fun _ => ?_))
   | exact ih0 _
   | exact LeO.none _
   | refine LeO.ite ?_ ?_
   | refine LeO.bind ?_ (fun _ => ?_)
set_option maxHeartbeats 8000000 in
set_option maxRecDepth 100000 in
theorem galoisref01_trim.calls (k : Nat) (P0_ : Nat → Prop) (u9000_ : Value) (l0 : List Int) (r : List Int) (w0 w : World) (hB : Below w0.heap.size w0 w) (ho0 : Kd.R (Kd.int .u64) 49 w w0.heap.size P0_ u9000_ l0) (h : galoisref01_trim.f k l0 = some r) :
  Calls Try.prog 68 #[u9000_] w fun e w' => ∃ v0_ : Value, e = .returned (v0_) ∧ Kd.R (Kd.int .u64) 49 w' w0.heap.size (fun k_ => (P0_ k_ ∨ w.heap.size ≤ k_)) v0_ r ∧ Below w0.heap.size w0 w' ∧ Kept w w' (fun k_ => P0_ k_) := by
 have HO0 := Aside0.mk (show Kd.R (Kd.int .u64) 49 w w0.heap.size (fun k_ => (P0_ k_ ∨ w.heap.size ≤ k_)) u9000_ l0 from Kd.R_mono ho0 (fun k_ hk => (.inl hk)))
 have HK := Aside0.mk (Kept.refl w (fun k_ => P0_ k_))
 have HW0 := Aside0.mk hB.size
 have HB := Aside0.mk hB
 clear hB
 have H : (galoisref01_trim.l0 k l0) = some r := h
 clear h
 have H' := Aside0.mk H
 clear H
 go_enter Try.func68, Try.ntmps68
 go_wp2
 go_loopg [0] k (fun kq v0 w' => ∃ (x0_1 : List Int), Aside0 (galoisref01_trim.l0 kq x0_1 = some r) ∧ Aside0 (kq ≤ k) ∧ Aside0 (Kd.R (Kd.int .u64) 49 w' w0.heap.size (fun k_ => (P0_ k_ ∨ w.heap.size ≤ k_)) v0 x0_1) ∧ Aside0 (Kept w w' (fun k_ => P0_ k_)) ∧ Aside0 (Below w0.heap.size w0 w'))
 case atStart => exact ⟨(l0), H', ⟨Nat.le_refl _⟩, ⟨by (with_reducible repeat (first | apply Kd.R_alloc | apply Kd.R_drewN | apply Kd.R_drew)); exact HO0.out⟩, ⟨by repeat (first | (with_reducible first | exact HK.out | apply Kept.alloc | apply Kept.drewN | apply Kept.drew) | exact HK.out)⟩, ⟨by repeat (first | (with_reducible first | exact HB.out | apply below_alloc | apply pw_below_drewN | apply below_drew1) | exact HB.out)⟩⟩
 case round =>
  clear H'
  obtain ⟨x0_1, HA, HK1, HO_0, HK, HB⟩ := hrel
  cases gk with
  | zero => exact absurd HA.out (by simp [galoisref01_trim.l0])
  | succ k1 =>
   have H := HA.out
   clear HA
   simp only [galoisref01_trim.l0] at H
   by_cases c2 : (x0_1.length : Int) > 0
   ·rw [if_pos c2] at H
    have c2b0 : decide (0 < (x0_1.length : Int)) = true := decide_eq_true c2
    have c2b1 : decide (0 < x0_1.length) = true := decide_eq_true (by omega)
    clear c2
    obtain ⟨ji3, hji3⟩ : ∃ j_ : Int, (wrap64 ((x0_1.length : Int) - 1)) = j_ := ⟨_, rfl⟩
    replace H : (if 0 ≤ (ji3) then (if (ji3) < (x0_1.length : Int) then (if (rd x0_1 (ji3)) = 0 then (if (ji3) ≤ (x0_1.length : Int) then (galoisref01_trim.l0 k1 (x0_1.take ((ji3) : Int).toNat)) else (none)) else (some x0_1)) else (none)) else (none)) = some r := by first | (rw [hji3] at H; exact H) | (simp only [hji3] at H ⊢; exact H)
    have hji3w : (IntKind.i64.wrap ((x0_1.length : Int) - 1)) = ji3 := (i64_w _).trans hji3
    by_cases c4 : 0 ≤ (ji3)
    ·rw [if_pos c4] at H
     have c4b0 : decide (0 ≤ (ji3)) = true := decide_eq_true c4
     clear c4
     by_cases c5 : (ji3) < (x0_1.length : Int)
     ·rw [if_pos c5] at H
      have c5b0 : decide ((ji3) < (x0_1.length : Int)) = true := decide_eq_true c5
      clear c5
      by_cases c6 : (rd x0_1 (ji3)) = 0
      ·rw [if_pos c6] at H
       have c6b0 : ((rd x0_1 (ji3)) == 0) = true := beq_iff_eq.mpr c6
       have c6b1 : ((rd x0_1 (ji3)) != 0) = false := bne_eq_false_iff_eq.mpr c6
       clear c6
       by_cases c7 : (ji3) ≤ (x0_1.length : Int)
       ·rw [if_pos c7] at H
        have c7b0 := eq_true c7
        have c7b1 : decide ((ji3) ≤ (x0_1.length : Int)) = true := decide_eq_true c7
        clear c7
        obtain ⟨y430, hy430⟩ : ∃ y_ : List Int, y_ = (x0_1.take ((ji3) : Int).toNat) := ⟨_, rfl⟩
        replace H : (galoisref01_trim.l0 k1 y430) = some r := by first | (rw [hy430]; with_reducible exact H) | (have H2_ := (Option.bind_some _ _).symm.trans H; rw [hy430]; with_reducible exact H2_) | (have H2_ := (Option.bind_some _ _).symm.trans H; with_reducible exact H2_) | with_reducible exact H | (rw [hy430]; exact H) | exact H
        have Ny430 := Aside0.mk hy430
        clear hy430
        have H' := Aside0.mk H
        clear H
        obtain ⟨Ao8, co8, eo8⟩ := Kd.R_slice HO_0.out
        subst eo8
        have p429 : 0 ≤ ((ji3) : Int) := of_decide_eq_true (by first | (with_reducible assumption) | assumption)
        have q429 : (ji3) < (x0_1.length : Int) := of_decide_eq_true (by first | (with_reducible assumption) | assumption)
        obtain ⟨ad429, e429, hx429_0⟩ := Kd.at_int (Kd.R_reads' HO_0.out).2.2 (ji3) p429 q429
        cases e429
        replace p429 := eq_true p429
        replace q429 := eq_true q429
        have q9 : ((ji3) : Int) ≤ ((x0_1.length : Int) : Int) := of_decide_eq_true (by first | (with_reducible assumption) | assumption)
        obtain ⟨i09, hi09, _, hsz9, _⟩ := info_parts info49
        have hcut9 := cut_to (P := Try.prog) 68 49 .i64 Try.underlying68 hi09 (some ad429) x0_1.length co8 (ji3) (of_decide_eq_true (by first | (with_reducible assumption) | assumption)) q9 (Kd.R_reads' HO_0.out).2.1
        have hr9 := Kd.R_take (m := ((ji3) : Int).toNat) HO_0.out (by omega)
        have hy9 : y430.length = ((ji3) : Int).toNat := (by rw [Ny430.out, List.length_take]; omega)
        rw [← Ny430.out] at hr9
        rw [← hy9] at hr9 hcut9
        clear hy9 hi09 hsz9 HO_0
        have HO432 := Aside0.mk hr9
        clear hr9
        replace q9 := eq_true q9
        go_wp2
        go_roundg k1
        case measure => have := HK1.out; omega
        case rel => exact ⟨(y430), H', ⟨by have := HK1.out; omega⟩, ⟨by (with_reducible repeat (first | apply Kd.R_alloc | apply Kd.R_drewN | apply Kd.R_drew)); exact HO432.out⟩, ⟨by repeat (first | (with_reducible first | exact HK.out | apply Kept.alloc | apply Kept.drewN | apply Kept.drew) | exact HK.out)⟩, ⟨by repeat (first | (with_reducible first | exact HB.out | apply below_alloc | apply pw_below_drewN | apply below_drew1) | exact HB.out)⟩⟩
       ·rw [if_neg c7] at H
        exact absurd H (by simp)
      ·rw [if_neg c6] at H
       have c6b0 : ((rd x0_1 (ji3)) == 0) = false := beq_eq_false_iff_ne.mpr c6
       have c6b1 : ((rd x0_1 (ji3)) != 0) = true := bne_iff_ne.mpr c6
       obtain rfl := Option.some.inj H
       obtain ⟨Ao10, co10, eo10⟩ := Kd.R_slice HO_0.out
       subst eo10
       have p429 : 0 ≤ ((ji3) : Int) := of_decide_eq_true (by first | (with_reducible assumption) | assumption)
       have q429 : (ji3) < (x0_1.length : Int) := of_decide_eq_true (by first | (with_reducible assumption) | assumption)
       obtain ⟨ad429, e429, hx429_0⟩ := Kd.at_int (Kd.R_reads' HO_0.out).2.2 (ji3) p429 q429
       cases e429
       replace p429 := eq_true p429
       replace q429 := eq_true q429
       go_wp2
       go_ret
       exact ⟨_, by first | rfl | (simp [errW_none, errW_some] <;> rfl) | (simp only [← hji3]; first | rfl | (simp [errW_none, errW_some] <;> rfl)) | (simp [*, errW_none, errW_some] <;> rfl), by (with_reducible repeat (first | apply Kd.R_alloc | apply Kd.R_drewN | apply Kd.R_drew)); exact HO_0.out, by repeat (first | (with_reducible first | exact HB.out | apply below_alloc | apply pw_below_drewN | apply below_drew1) | exact HB.out), by repeat (first | (with_reducible first | exact HK.out | apply Kept.alloc | apply Kept.drewN | apply Kept.drew) | exact HK.out)⟩
     ·rw [if_neg c5] at H
      exact absurd H (by simp)
    ·rw [if_neg c4] at H
     exact absurd H (by simp)
   ·rw [if_neg c2] at H
    have c2b0 : decide (0 < (x0_1.length : Int)) = false := decide_eq_false c2
    have c2b1 : decide (0 < x0_1.length) = false := decide_eq_false (by omega)
    clear c2
    obtain rfl := Option.some.inj H
    obtain ⟨Ao11, co11, eo11⟩ := Kd.R_slice HO_0.out
    subst eo11
    go_wp2
    go_ret
    exact ⟨_, by first | rfl | (simp [errW_none, errW_some] <;> rfl) | (simp [*, errW_none, errW_some] <;> rfl), by (with_reducible repeat (first | apply Kd.R_alloc | apply Kd.R_drewN | apply Kd.R_drew)); exact HO_0.out, by repeat (first | (with_reducible first | exact HB.out | apply below_alloc | apply pw_below_drewN | apply below_drew1) | exact HB.out), by repeat (first | (with_reducible first | exact HK.out | apply Kept.alloc | apply Kept.drewN | apply Kept.drew) | exact HK.out)⟩
mutual
def galoisref01_limbs.l0 : Nat → ByteArray → List Int → Int → Option (List Int)
 | 0, _, _, _ => none
 | k + 1, x0, x3, x4 => if x4 > 0 then (galoisref01_limbs.l1 k x0 x3 x4 0 (mx 0 (wrap64 (x4 - 4)))) else ((galoisref01_trim.f k x3).bind fun t433 => (some t433))
def galoisref01_limbs.l1 : Nat → ByteArray → List Int → Int → Int → Int → Option (List Int)
 | 0, _, _, _, _, _ => none
 | k + 1, x0, x3, x4, x5, x6 => if x6 < x4 then (if 0 ≤ x6 then (if x6 < (x0.size : Int) then (galoisref01_limbs.l1 k x0 x3 x4 (IntKind.u64.wrap ((IntKind.u64.wrap (x5 * 256)) + (IntKind.u64.wrap (bt x0 x6)))) (wrap64 (x6 + 1))) else (none)) else (none)) else (if x3.length < 17592186044416 then (galoisref01_limbs.l0 k x0 (x3 ++ [x5]) (wrap64 (x4 - 4))) else (none))
end
def galoisref01_limbs.f (k : Nat) (a0 : ByteArray) : Option (List Int) := galoisref01_limbs.l0 k a0 ([] : List Int) (a0.size : Int)
theorem galoisref01_limbs.mono_l : ∀ k, (∀ y0 y1 y2, LeO (galoisref01_limbs.l0 k y0 y1 y2) (galoisref01_limbs.l0 (k + 1) y0 y1 y2)) ∧ (∀ y0 y1 y2 y3 y4, LeO (galoisref01_limbs.l1 k y0 y1 y2 y3 y4) (galoisref01_limbs.l1 (k + 1) y0 y1 y2 y3 y4))
 | 0 => ⟨fun _ _ _ r h => by simp [galoisref01_limbs.l0] at h, fun _ _ _ _ _ r h => by simp [galoisref01_limbs.l1] at h⟩
 | k + 1 => by
  obtain ⟨ih0, ih1⟩ := galoisref01_limbs.mono_l k
  refine ⟨?_, ?_⟩
  ·intro y0 y1 y2
   unfold galoisref01_limbs.l0
   repeat' first
   | (with_reducible exact ih0 _ _ _)
   | (with_reducible exact ih1 _ _ _ _ _)
   | (with_reducible exact galoisref01_trim.mono _ _)
   | (with_reducible exact LeO.refl _)
   | (with_reducible exact LeO.none _)
   | (with_reducible refine LeO.ite ?_ ?_)
   | (with_reducible refine LeO.bind ?_ (fun _ => ?_))
   | exact ih0 _ _ _
   | exact ih1 _ _ _ _ _
   | exact galoisref01_trim.mono _ _
   | exact LeO.none _
   | refine LeO.ite ?_ ?_
   | refine LeO.bind ?_ (fun _ => ?_)
  ·intro y0 y1 y2 y3 y4
   unfold galoisref01_limbs.l1
   repeat' first
   | (with_reducible exact ih0 _ _ _)
   | (with_reducible exact ih1 _ _ _ _ _)
   | (with_reducible exact galoisref01_trim.mono _ _)
   | (with_reducible exact LeO.refl _)
   | (with_reducible exact LeO.none _)
   | (with_reducible refine LeO.ite ?_ ?_)
   | (with_reducible refine LeO.bind ?_ (fun _ => ?_))
   | exact ih0 _ _ _
   | exact ih1 _ _ _ _ _
   | exact galoisref01_trim.mono _ _
   | exact LeO.none _
   | refine LeO.ite ?_ ?_
   | refine LeO.bind ?_ (fun _ => ?_)
theorem galoisref01_limbs.mono : ∀ a0 k, LeO (galoisref01_limbs.f k a0) (galoisref01_limbs.f (k + 1) a0) := by
 intro a0 k
 obtain ⟨ih0, ih1⟩ := galoisref01_limbs.mono_l k
 unfold galoisref01_limbs.f
 repeat' first
   | (with_reducible exact ih0 _ _ _)
   | (with_reducible exact ih1 _ _ _ _ _)
   | (with_reducible exact galoisref01_trim.mono _ _)
   | (with_reducible exact LeO.refl _)
   | (with_reducible exact LeO.none _)
   | (with_reducible refine LeO.ite ?_ ?_)
   | (with_reducible refine LeO.bind ?_ (fun _ => ?_))
   | exact ih0 _ _ _
   | exact ih1 _ _ _ _ _
   | exact galoisref01_trim.mono _ _
   | exact LeO.none _
   | refine LeO.ite ?_ ?_
   | refine LeO.bind ?_ (fun _ => ?_)
set_option maxHeartbeats 8000000 in
set_option maxRecDepth 100000 in
theorem galoisref01_limbs.calls (k : Nat) (a0 : ByteArray) (r : List Int) (w : World) (h : galoisref01_limbs.f k a0 = some r) :
  Calls Try.prog 51 #[.string a0] w fun e w' => ∃ v0_ : Value, e = .returned (v0_) ∧ Kd.R (Kd.int .u64) 49 w' w.heap.size (fun _ => True) v0_ r ∧ Below w.heap.size w w' := by
 have HB := Aside0.mk (Below.refl w.heap.size w)
 have H : (galoisref01_limbs.l0 k a0 ([] : List Int) (a0.size : Int)) = some r := h
 clear h
 have H' := Aside0.mk H
 clear H
 go_enter Try.func51, Try.ntmps51
 go_wp2
 go_loopg [3, 4] k (fun kq v3 v4 w' => ∃ (x3_1 : List Int) (x4_1 : Int), v4 = .int .i64 x4_1 ∧ Aside0 (galoisref01_limbs.l0 kq a0 x3_1 x4_1 = some r) ∧ Aside0 (kq ≤ k) ∧ Aside0 (Kd.R (Kd.int .u64) 49 w' w.heap.size (fun _ => True) v3 x3_1) ∧ Aside0 (Below w.heap.size w w'))
 case atStart => exact ⟨(([] : List Int)), ((a0.size : Int)), (by first | rfl | (simp; done) | (simp [*]; done)), H', ⟨Nat.le_refl _⟩, ⟨by first | exact Kd.R_nil _ _ _ _ _ | exact Kd.N_nil _ _ _ _ _ | exact Kd.V_nil _ _ _ _ _ | exact Kd.Q_nil _ _ _ _ _ | exact Kd.S_nil _ _ _ _ _⟩, ⟨by repeat (first | (with_reducible first | exact HB.out | apply below_alloc | apply pw_below_drewN | apply below_drew1) | exact HB.out)⟩⟩
 case round =>
  clear H'
  obtain ⟨x3_1, x4_1, rfl, HA, HK1, HO_3, HB⟩ := hrel
  cases gk with
  | zero => exact absurd HA.out (by simp [galoisref01_limbs.l0])
  | succ k1 =>
   have H := HA.out
   clear HA
   simp only [galoisref01_limbs.l0] at H
   by_cases c2 : x4_1 > 0
   ·rw [if_pos c2] at H
    have c2b0 : decide (0 < x4_1) = true := decide_eq_true c2
    clear c2
    obtain ⟨ji3, hji3⟩ : ∃ j_ : Int, (mx 0 (wrap64 (x4_1 - 4))) = j_ := ⟨_, rfl⟩
    replace H : (galoisref01_limbs.l1 k1 a0 x3_1 x4_1 0 ji3) = some r := by first | (rw [hji3] at H; exact H) | (simp only [hji3] at H ⊢; exact H)
    have hji3_ : (if 0 < (wrap64 (x4_1 - 4)) then (wrap64 (x4_1 - 4)) else 0) = ji3 := hji3
    have H' := Aside0.mk H
    clear H
    go_wp2
    go_loopg [5, 6] k1 (fun kq v5 v6 w' => ∃ (x5_2 : Int) (x6_2 : Int), v5 = .int .u64 x5_2 ∧ v6 = .int .i64 x6_2 ∧ Aside0 (galoisref01_limbs.l1 kq a0 x3_1 x4_1 x5_2 x6_2 = some r) ∧ Aside0 (kq ≤ k1) ∧ Aside0 (Kd.R (Kd.int .u64) 49 w' w.heap.size (fun _ => True) u3 x3_1) ∧ Aside0 (Below w.heap.size w w'))
    case atStart => exact ⟨(0), (ji3), (by first | rfl | (simp; done) | (simp [*]; done)), (by first | rfl | (simp; done) | (simp only [← hji3] <;> (first | rfl | simp)) | (simp [*]; done)), H', ⟨Nat.le_refl _⟩, ⟨by (with_reducible repeat (first | apply Kd.R_alloc | apply Kd.R_drewN | apply Kd.R_drew)); exact HO_3.out⟩, ⟨by repeat (first | (with_reducible first | exact HB.out | apply below_alloc | apply pw_below_drewN | apply below_drew1) | exact HB.out)⟩⟩
    case round =>
     clear H'
     try clear c2
     try clear c2b0
     try clear p2
     obtain ⟨x5_2, x6_2, rfl, rfl, HA, HK2, HO_3, HB⟩ := hrel
     cases gk with
     | zero => exact absurd HA.out (by simp [galoisref01_limbs.l1])
     | succ k2 =>
      have H := HA.out
      clear HA
      simp only [galoisref01_limbs.l1] at H
      by_cases c4 : x6_2 < x4_1
      ·rw [if_pos c4] at H
       have c4b0 : decide (x6_2 < x4_1) = true := decide_eq_true c4
       clear c4
       by_cases c5 : 0 ≤ x6_2
       ·rw [if_pos c5] at H
        have c5b0 : decide (0 ≤ x6_2) = true := decide_eq_true c5
        clear c5
        by_cases c6 : x6_2 < (a0.size : Int)
        ·rw [if_pos c6] at H
         have c6b0 : decide (x6_2 < (a0.size : Int)) = true := decide_eq_true c6
         clear c6
         have H' := Aside0.mk H
         clear H
         have p7 : 0 ≤ (x6_2 : Int) := of_decide_eq_true (by first | (with_reducible assumption) | assumption)
         have q7 : x6_2 < (a0.size : Int) := of_decide_eq_true (by first | (with_reducible assumption) | assumption)
         have hx7 := bt_at a0 x6_2
         replace p7 := eq_true p7
         replace q7 := eq_true q7
         go_wp2
         go_roundg k2
         case measure => have := HK1.out; have := HK2.out; omega
         case rel => exact ⟨(IntKind.u64.wrap ((IntKind.u64.wrap (x5_2 * 256)) + (IntKind.u64.wrap (bt a0 x6_2)))), (wrap64 (x6_2 + 1)), (by first | rfl | (simp; done) | (simp [*]; done)), (by first | rfl | (simp; done) | (simp [*]; done)), H', ⟨by have := HK1.out; have := HK2.out; omega⟩, ⟨by (with_reducible repeat (first | apply Kd.R_alloc | apply Kd.R_drewN | apply Kd.R_drew)); exact HO_3.out⟩, ⟨by repeat (first | (with_reducible first | exact HB.out | apply below_alloc | apply pw_below_drewN | apply below_drew1) | exact HB.out)⟩⟩
        ·rw [if_neg c6] at H
         exact absurd H (by simp)
       ·rw [if_neg c5] at H
        exact absurd H (by simp)
      ·rw [if_neg c4] at H
       have c4b0 : decide (x6_2 < x4_1) = false := decide_eq_false c4
       clear c4
       by_cases c8 : x3_1.length < 17592186044416
       ·rw [if_pos c8] at H
        have LMc8 := Aside0.mk c8
        clear c8
        obtain ⟨y436, hy436⟩ : ∃ y_ : List Int, y_ = (x3_1 ++ [x5_2]) := ⟨_, rfl⟩
        replace H : (galoisref01_limbs.l0 k2 a0 y436 (wrap64 (x4_1 - 4))) = some r := by first | (rw [hy436]; with_reducible exact H) | (have H2_ := (Option.bind_some _ _).symm.trans H; rw [hy436]; with_reducible exact H2_) | (have H2_ := (Option.bind_some _ _).symm.trans H; with_reducible exact H2_) | with_reducible exact H | (rw [hy436]; exact H) | exact H
        have Ny436 := Aside0.mk hy436
        clear hy436
        have H' := Aside0.mk H
        clear H
        go_wp2_with (first | ((with_reducible refine gate_builtin (b := .append) (xs := #[.tmp 28, .tmp 30]) rfl ?_); at_builtin; refine Kd.R_append (Kd.int .u64) (w0 := w) w.heap.size rfl (.tmp 28) (.tmp 30) 68 49 (.int .u64 0) 8 rfl Try.underlying68 info49 rfl (by decide) (by omega) u3 x3_1 x5_2 [.int .u64 x5_2] (fun _ => True) (fun _ => False) rfl rfl ?aP (fun _ hk => hk.elim) ?aF ?aO ?aB ?aS ?aL ?_; (case aP => exact rfl); (case aB => exact (by repeat (first | (with_reducible first | exact HB.out | apply below_alloc | apply pw_below_drewN | apply below_drew1) | exact HB.out))); (case aF => exact (fun _ _ => trivial)); (case aO => exact (by (with_reducible repeat (first | apply Kd.R_alloc | apply Kd.R_drewN | apply Kd.R_drew)); exact HO_3.out)); (case aS => exact (below_size (by repeat (first | (with_reducible first | exact HB.out | apply below_alloc | apply pw_below_drewN | apply below_drew1) | exact HB.out)))); (case aL => have := LMc8.out; omega); intro v437 w9 ho hb hg hat; rw [← Ny436.out] at ho; have n0_ := Aside0.mk (hb); have n1_ := Aside0.mk (ho); clear HB; clear HO_3; have HB := n0_; have HO438 := n1_; clear n0_ n1_; clear ho hb hg hat))
        go_roundg k2
        case measure => have := HK1.out; have := HK2.out; omega
        case rel => exact ⟨(y436), (wrap64 (x4_1 - 4)), (by first | rfl | (simp; done) | (simp [*]; done)), H', ⟨by have := HK1.out; have := HK2.out; omega⟩, ⟨by (with_reducible repeat (first | apply Kd.R_alloc | apply Kd.R_drewN | apply Kd.R_drew)); exact HO438.out⟩, ⟨by repeat (first | (with_reducible first | exact HB.out | apply below_alloc | apply pw_below_drewN | apply below_drew1) | exact HB.out)⟩⟩
       ·rw [if_neg c8] at H
        exact absurd H (by simp)
   ·rw [if_neg c2] at H
    have c2b0 : decide (0 < x4_1) = false := decide_eq_false c2
    clear c2
    replace H := Option.bind_eq_some_iff.mp H
    obtain ⟨t433, A100, H⟩ := H
    replace H : (some t433) = some r := H
    have A10 := Aside0.mk A100
    clear A100
    obtain rfl := Option.some.inj H
    obtain ⟨Ao11, co11, eo11⟩ := Kd.R_slice HO_3.out
    subst eo11
    go_wp2_with (first | ((with_reducible refine gate_callee (f := 68) rfl ?_); refine goesL_ (some 33) rfl rfl Try.func68 (by kernel_rfl) rfl #[.slice Ao11 x3_1.length co11] rfl (by (try simp only [List.map_toArray, List.map_cons, List.map_nil]); first | done | rfl | (simp only [List.length_drop, List.length_take]; rfl)) ?_; (with_reducible refine (galoisref01_trim.calls k1 (fun k_ => some k_ = (.slice Ao11 x3_1.length co11 : Value).ownBlock) (.slice Ao11 x3_1.length co11) x3_1 t433 w _ ?side1 ?side2 A10.out).mono ?_); (case side1 => repeat (first | (with_reducible first | exact HB.out | apply below_alloc | apply pw_below_drewN | apply below_drew1) | exact HB.out)); (case side2 => exact Kd.R_tight rfl HO_3.out); rintro e w12 ⟨v434, rfl, ho0, hb, hkp⟩; refine ⟨_, rfl, ?_⟩; have n0_ := Aside0.mk (Kd.R_mono (ok' := fun k_ => True) ho0 (fun k_ hk_ => trivial)); have n1_ := Aside0.mk (hb); clear HB; clear HO_3; have HO435 := n0_; have HB := n1_; clear n0_ n1_; (try clear hb); (try clear hkp); (try clear ho0)))
    go_ret
    exact ⟨_, by first | rfl | (simp [errW_none, errW_some] <;> rfl) | (simp [*, errW_none, errW_some] <;> rfl), by (with_reducible repeat (first | apply Kd.R_alloc | apply Kd.R_drewN | apply Kd.R_drew)); exact HO435.out, by repeat (first | (with_reducible first | exact HB.out | apply below_alloc | apply pw_below_drewN | apply below_drew1) | exact HB.out)⟩
def galoisref01_below.l0 : Nat → List Int → List Int → Int → Option (Bool)
 | 0, _, _, _ => none
 | k + 1, x0, x1, x5 => if x5 ≥ 0 then (if 0 ≤ x5 then (if x5 < (x0.length : Int) then (if x5 < (x1.length : Int) then (if (rd x0 x5) = (rd x1 x5) then (galoisref01_below.l0 k x0 x1 (wrap64 (x5 - 1))) else (some (decide ((rd x0 x5) < (rd x1 x5))))) else (none)) else (none)) else (none)) else (some false)
def galoisref01_below.f (k : Nat) (l0 : List Int) (l1 : List Int) : Option (Bool) := (galoisref01_trimV.f k l0).bind fun t439 => (if (t439.length : Int) = (l1.length : Int) then (galoisref01_below.l0 k t439 l1 (wrap64 ((t439.length : Int) - 1))) else (some (decide ((t439.length : Int) < (l1.length : Int)))))
theorem galoisref01_below.mono_l : ∀ k, (∀ y0 y1 y2, LeO (galoisref01_below.l0 k y0 y1 y2) (galoisref01_below.l0 (k + 1) y0 y1 y2))
 | 0 => fun _ _ _ r h => by simp [galoisref01_below.l0] at h
 | k + 1 => by
  have ih0 := galoisref01_below.mono_l k
  ·intro y0 y1 y2
   unfold galoisref01_below.l0
   repeat' first
   | (with_reducible exact ih0 _ _ _)
   | (with_reducible exact galoisref01_trimV.mono _ _)
   | (with_reducible exact LeO.refl _)
   | (with_reducible exact LeO.none _)
   | (with_reducible refine LeO.ite ?_ ?_)
   | (with_reducible refine LeO.bind ?_ (fun _ => ?_))
   | exact ih0 _ _ _
   | exact galoisref01_trimV.mono _ _
   | exact LeO.none _
   | refine LeO.ite ?_ ?_
   | refine LeO.bind ?_ (fun _ => ?_)
theorem galoisref01_below.mono : ∀ a0 a1 k, LeO (galoisref01_below.f k a0 a1) (galoisref01_below.f (k + 1) a0 a1) := by
 intro a0 a1 k
 have ih0 := galoisref01_below.mono_l k
 unfold galoisref01_below.f
 repeat' first
   | (with_reducible exact ih0 _ _ _)
   | (with_reducible exact galoisref01_trimV.mono _ _)
   | (with_reducible exact LeO.refl _)
   | (with_reducible exact LeO.none _)
   | (with_reducible refine LeO.ite ?_ ?_)
   | (with_reducible refine LeO.bind ?_ (fun _ => ?_))
   | exact ih0 _ _ _
   | exact galoisref01_trimV.mono _ _
   | exact LeO.none _
   | refine LeO.ite ?_ ?_
   | refine LeO.bind ?_ (fun _ => ?_)
set_option maxHeartbeats 8000000 in
set_option maxRecDepth 100000 in
theorem galoisref01_below.calls (k : Nat) (A0 : Option Addr) (c0 : Nat) (l0 : List Int) (A1 : Option Addr) (c1 : Nat) (l1 : List Int) (r : Bool) (w : World) (hr0 : Kd.C (Kd.int .u64) w A0 l0.length l0) (hc0 : l0.length ≤ c0) (hr1 : Kd.C (Kd.int .u64) w A1 l1.length l1) (hc1 : l1.length ≤ c1) (h : galoisref01_below.f k l0 l1 = some r) :
  Calls Try.prog 52 #[.slice A0 l0.length c0, .slice A1 l1.length c1] w fun e w' => e = .returned (.bool r) ∧ Below w.heap.size w w' := by
 have HR0 := Aside0.mk hr0
 have HC0 := Aside0.mk hc0
 clear hr0 hc0
 have HR1 := Aside0.mk hr1
 have HC1 := Aside0.mk hc1
 clear hr1 hc1
 have HB := Aside0.mk (Below.refl w.heap.size w)
 have H : ((galoisref01_trimV.f k l0).bind fun t439 => (if (t439.length : Int) = (l1.length : Int) then (galoisref01_below.l0 k t439 l1 (wrap64 ((t439.length : Int) - 1))) else (some (decide ((t439.length : Int) < (l1.length : Int)))))) = some r := h
 clear h
 replace H := Option.bind_eq_some_iff.mp H
 obtain ⟨t439, A30, H⟩ := H
 replace H : (if (t439.length : Int) = (l1.length : Int) then (galoisref01_below.l0 k t439 l1 (wrap64 ((t439.length : Int) - 1))) else (some (decide ((t439.length : Int) < (l1.length : Int))))) = some r := H
 have A3 := Aside0.mk A30
 clear A30
 by_cases c4 : (t439.length : Int) = (l1.length : Int)
 ·rw [if_pos c4] at H
  have c4b0 : ((t439.length : Int) == (l1.length : Int)) = true := beq_iff_eq.mpr c4
  have c4b1 : ((t439.length : Int) != (l1.length : Int)) = false := bne_eq_false_iff_eq.mpr c4
  have c4b2 : (t439.length == l1.length) = true := by first | simpa using c4 | (simp at c4 ⊢; omega)
  clear c4
  have H' := Aside0.mk H
  clear H
  go_enter Try.func52, Try.ntmps52
  go_wp2_with (first | (go_at_call 68; (with_reducible refine (galoisref01_trimV.calls k (fun k_ => k_ < w.heap.size) _ _ l0 t439 _ ?side1 A3.out).mono ?_); (case side1 => exact Kd.V_mk HC0.out (Kd.F_below (Kd.C_F (Kd.heap_int .u64) HR0.out) (by repeat (first | (with_reducible first | exact HB.out | apply below_alloc | apply pw_below_drewN | apply below_drew1) | exact HB.out)))); rintro e w5 ⟨v440, rfl, ho0, hb⟩; have n0_ := Aside0.mk (Kd.V_lower (Kd.V_mono (ok' := fun k_ => True) ho0 (fun k_ hk_ => trivial)) (below_size (by repeat (first | (with_reducible first | exact HB.out | apply below_alloc | apply pw_below_drewN | apply below_drew1) | exact HB.out)))); have n1_ := Aside0.mk (below_step (by repeat (first | (with_reducible first | exact HB.out | apply below_alloc | apply pw_below_drewN | apply below_drew1) | exact HB.out)) hb); clear HB; have HO441 := n0_; have HB := n1_; clear n0_ n1_; (try clear hb); (try clear hb2); (try clear hk); (try clear hi); (try clear ho0); obtain ⟨Ao6, co6, eo6⟩ := Kd.V_slice HO441.out; subst eo6))
  repeat (go_quiet (first | (go_at_call 68; (with_reducible refine (galoisref01_trimV.calls k (fun k_ => k_ < w.heap.size) _ _ l0 t439 _ ?side1 A3.out).mono ?_); (case side1 => exact Kd.V_mk HC0.out (Kd.F_below (Kd.C_F (Kd.heap_int .u64) HR0.out) (by repeat (first | (with_reducible first | exact HB.out | apply below_alloc | apply pw_below_drewN | apply below_drew1) | exact HB.out)))); rintro e w5 ⟨v440, rfl, ho0, hb⟩; have n0_ := Aside0.mk (Kd.V_lower (Kd.V_mono (ok' := fun k_ => True) ho0 (fun k_ hk_ => trivial)) (below_size (by repeat (first | (with_reducible first | exact HB.out | apply below_alloc | apply pw_below_drewN | apply below_drew1) | exact HB.out)))); have n1_ := Aside0.mk (below_step (by repeat (first | (with_reducible first | exact HB.out | apply below_alloc | apply pw_below_drewN | apply below_drew1) | exact HB.out)) hb); clear HB; have HO441 := n0_; have HB := n1_; clear n0_ n1_; (try clear hb); (try clear hb2); (try clear hk); (try clear hi); (try clear ho0); obtain ⟨Ao6, co6, eo6⟩ := Kd.V_slice HO441.out; subst eo6)); try go_wp2_with (first | (go_at_call 68; (with_reducible refine (galoisref01_trimV.calls k (fun k_ => k_ < w.heap.size) _ _ l0 t439 _ ?side1 A3.out).mono ?_); (case side1 => exact Kd.V_mk HC0.out (Kd.F_below (Kd.C_F (Kd.heap_int .u64) HR0.out) (by repeat (first | (with_reducible first | exact HB.out | apply below_alloc | apply pw_below_drewN | apply below_drew1) | exact HB.out)))); rintro e w5 ⟨v440, rfl, ho0, hb⟩; have n0_ := Aside0.mk (Kd.V_lower (Kd.V_mono (ok' := fun k_ => True) ho0 (fun k_ hk_ => trivial)) (below_size (by repeat (first | (with_reducible first | exact HB.out | apply below_alloc | apply pw_below_drewN | apply below_drew1) | exact HB.out)))); have n1_ := Aside0.mk (below_step (by repeat (first | (with_reducible first | exact HB.out | apply below_alloc | apply pw_below_drewN | apply below_drew1) | exact HB.out)) hb); clear HB; have HO441 := n0_; have HB := n1_; clear n0_ n1_; (try clear hb); (try clear hb2); (try clear hk); (try clear hi); (try clear ho0); obtain ⟨Ao6, co6, eo6⟩ := Kd.V_slice HO441.out; subst eo6)))
  go_loopg [5] k (fun kq v5 w' => ∃ (x5_1 : Int), v5 = .int .i64 x5_1 ∧ Aside0 (galoisref01_below.l0 kq t439 l1 x5_1 = some r) ∧ Aside0 (kq ≤ k) ∧ Aside0 (Kd.V (Kd.int .u64) 49 w' w.heap.size (fun _ => True) (.slice Ao6 t439.length co6) t439) ∧ Aside0 (Below w.heap.size w w'))
  case atStart => exact ⟨(wrap64 ((t439.length : Int) - 1)), (by first | rfl | (simp; done) | (simp [*]; done)), H', ⟨Nat.le_refl _⟩, ⟨by (with_reducible repeat (first | apply Kd.V_alloc | apply Kd.V_drewN | apply Kd.V_drew)); exact HO441.out⟩, ⟨by repeat (first | (with_reducible first | exact HB.out | apply below_alloc | apply pw_below_drewN | apply below_drew1) | exact HB.out)⟩⟩
  case round =>
   clear H'
   try clear c1
   try clear p2
   try clear c4
   try clear c4b0
   try clear c4b1
   try clear c4b2
   try clear c5
   try clear p6
   obtain ⟨x5_1, rfl, HA, HK1, HO_0, HB⟩ := hrel
   cases gk with
   | zero => exact absurd HA.out (by simp [galoisref01_below.l0])
   | succ k1 =>
    have H := HA.out
    clear HA
    simp only [galoisref01_below.l0] at H
    by_cases c7 : x5_1 ≥ 0
    ·rw [if_pos c7] at H
     have c7b0 : decide (0 ≤ x5_1) = true := decide_eq_true c7
     clear c7
     by_cases c8 : 0 ≤ x5_1
     ·rw [if_pos c8] at H
      have c8b0 : decide (0 ≤ x5_1) = true := decide_eq_true c8
      clear c8
      by_cases c9 : x5_1 < (t439.length : Int)
      ·rw [if_pos c9] at H
       have c9b0 : decide (x5_1 < (t439.length : Int)) = true := decide_eq_true c9
       clear c9
       by_cases c10 : x5_1 < (l1.length : Int)
       ·rw [if_pos c10] at H
        have c10b0 : decide (x5_1 < (l1.length : Int)) = true := decide_eq_true c10
        clear c10
        by_cases c11 : (rd t439 x5_1) = (rd l1 x5_1)
        ·rw [if_pos c11] at H
         have c11b0 : ((rd t439 x5_1) == (rd l1 x5_1)) = true := beq_iff_eq.mpr c11
         have c11b1 : ((rd t439 x5_1) != (rd l1 x5_1)) = false := bne_eq_false_iff_eq.mpr c11
         clear c11
         have H' := Aside0.mk H
         clear H
         have p442 : 0 ≤ (x5_1 : Int) := of_decide_eq_true (by first | (with_reducible assumption) | assumption)
         have q442 : x5_1 < (t439.length : Int) := of_decide_eq_true (by first | (with_reducible assumption) | assumption)
         obtain ⟨ad442, e442, hx442_0⟩ := Kd.at_int (Kd.V_reads' HO_0.out).2.2 x5_1 p442 q442
         cases e442
         replace p442 := eq_true p442
         replace q442 := eq_true q442
         have p443 : 0 ≤ (x5_1 : Int) := of_decide_eq_true (by first | (with_reducible assumption) | assumption)
         have q443 : x5_1 < (l1.length : Int) := of_decide_eq_true (by first | (with_reducible assumption) | assumption)
         obtain ⟨ad443, e443, hx443_0⟩ := Kd.at_int HR1.out x5_1 p443 q443
         cases e443
         replace hx443_0 := (HB.out.cell (World.block_lt_of_cell? w _ hx443_0)).trans hx443_0
         replace p443 := eq_true p443
         replace q443 := eq_true q443
         go_wp2
         repeat (go_quiet (fail); try go_wp2)
         go_roundg k1
         case measure => have := HK1.out; omega
         case rel => exact ⟨(wrap64 (x5_1 - 1)), (by first | rfl | (simp; done) | (simp [*]; done)), H', ⟨by have := HK1.out; omega⟩, ⟨by (with_reducible repeat (first | apply Kd.V_alloc | apply Kd.V_drewN | apply Kd.V_drew)); exact HO_0.out⟩, ⟨by repeat (first | (with_reducible first | exact HB.out | apply below_alloc | apply pw_below_drewN | apply below_drew1) | exact HB.out)⟩⟩
        ·rw [if_neg c11] at H
         have c11b0 : ((rd t439 x5_1) == (rd l1 x5_1)) = false := beq_eq_false_iff_ne.mpr c11
         have c11b1 : ((rd t439 x5_1) != (rd l1 x5_1)) = true := bne_iff_ne.mpr c11
         obtain rfl := Option.some.inj H
         have p442 : 0 ≤ (x5_1 : Int) := of_decide_eq_true (by first | (with_reducible assumption) | assumption)
         have q442 : x5_1 < (t439.length : Int) := of_decide_eq_true (by first | (with_reducible assumption) | assumption)
         obtain ⟨ad442, e442, hx442_0⟩ := Kd.at_int (Kd.V_reads' HO_0.out).2.2 x5_1 p442 q442
         cases e442
         replace p442 := eq_true p442
         replace q442 := eq_true q442
         have p443 : 0 ≤ (x5_1 : Int) := of_decide_eq_true (by first | (with_reducible assumption) | assumption)
         have q443 : x5_1 < (l1.length : Int) := of_decide_eq_true (by first | (with_reducible assumption) | assumption)
         obtain ⟨ad443, e443, hx443_0⟩ := Kd.at_int HR1.out x5_1 p443 q443
         cases e443
         replace hx443_0 := (HB.out.cell (World.block_lt_of_cell? w _ hx443_0)).trans hx443_0
         replace p443 := eq_true p443
         replace q443 := eq_true q443
         have p444 : 0 ≤ (x5_1 : Int) := of_decide_eq_true (by first | (with_reducible assumption) | assumption)
         have q444 : x5_1 < (t439.length : Int) := of_decide_eq_true (by first | (with_reducible assumption) | assumption)
         obtain ⟨ad444, e444, hx444_0⟩ := Kd.at_int (Kd.V_reads' HO_0.out).2.2 x5_1 p444 q444
         obtain rfl : ad442 = ad444 := (by injection e444)
         replace p444 := eq_true p444
         replace q444 := eq_true q444
         have p445 : 0 ≤ (x5_1 : Int) := of_decide_eq_true (by first | (with_reducible assumption) | assumption)
         have q445 : x5_1 < (l1.length : Int) := of_decide_eq_true (by first | (with_reducible assumption) | assumption)
         obtain ⟨ad445, e445, hx445_0⟩ := Kd.at_int HR1.out x5_1 p445 q445
         obtain rfl : ad443 = ad445 := (by injection e445)
         replace hx445_0 := (HB.out.cell (World.block_lt_of_cell? w _ hx445_0)).trans hx445_0
         replace p445 := eq_true p445
         replace q445 := eq_true q445
         go_wp2
         repeat (go_quiet (fail); try go_wp2)
         go_ret
         exact ⟨by first | rfl | (simp [errW_none, errW_some] <;> rfl) | (simp [*, errW_none, errW_some] <;> rfl), by repeat (first | (with_reducible first | exact HB.out | apply below_alloc | apply pw_below_drewN | apply below_drew1) | exact HB.out)⟩
       ·rw [if_neg c10] at H
        exact absurd H (by simp)
      ·rw [if_neg c9] at H
       exact absurd H (by simp)
     ·rw [if_neg c8] at H
      exact absurd H (by simp)
    ·rw [if_neg c7] at H
     have c7b0 : decide (0 ≤ x5_1) = false := decide_eq_false c7
     clear c7
     obtain rfl := Option.some.inj H
     go_wp2
     repeat (go_quiet (fail); try go_wp2)
     go_ret
     exact ⟨by first | rfl | (simp [errW_none, errW_some] <;> rfl) | (simp [*, errW_none, errW_some] <;> rfl), by repeat (first | (with_reducible first | exact HB.out | apply below_alloc | apply pw_below_drewN | apply below_drew1) | exact HB.out)⟩
 ·rw [if_neg c4] at H
  have c4b0 : ((t439.length : Int) == (l1.length : Int)) = false := beq_eq_false_iff_ne.mpr c4
  have c4b1 : ((t439.length : Int) != (l1.length : Int)) = true := bne_iff_ne.mpr c4
  have c4b2 : (t439.length == l1.length) = false := by first | simpa using c4 | (simp at c4 ⊢; omega)
  obtain rfl := Option.some.inj H
  go_enter Try.func52, Try.ntmps52
  go_wp2_with (first | (go_at_call 68; (with_reducible refine (galoisref01_trimV.calls k (fun k_ => k_ < w.heap.size) _ _ l0 t439 _ ?side1 A3.out).mono ?_); (case side1 => exact Kd.V_mk HC0.out (Kd.F_below (Kd.C_F (Kd.heap_int .u64) HR0.out) (by repeat (first | (with_reducible first | exact HB.out | apply below_alloc | apply pw_below_drewN | apply below_drew1) | exact HB.out)))); rintro e w12 ⟨v440, rfl, ho0, hb⟩; have n0_ := Aside0.mk (Kd.V_lower (Kd.V_mono (ok' := fun k_ => True) ho0 (fun k_ hk_ => trivial)) (below_size (by repeat (first | (with_reducible first | exact HB.out | apply below_alloc | apply pw_below_drewN | apply below_drew1) | exact HB.out)))); have n1_ := Aside0.mk (below_step (by repeat (first | (with_reducible first | exact HB.out | apply below_alloc | apply pw_below_drewN | apply below_drew1) | exact HB.out)) hb); clear HB; have HO441 := n0_; have HB := n1_; clear n0_ n1_; (try clear hb); (try clear hb2); (try clear hk); (try clear hi); (try clear ho0); obtain ⟨Ao13, co13, eo13⟩ := Kd.V_slice HO441.out; subst eo13))
  repeat (go_quiet (first | (go_at_call 68; (with_reducible refine (galoisref01_trimV.calls k (fun k_ => k_ < w.heap.size) _ _ l0 t439 _ ?side1 A3.out).mono ?_); (case side1 => exact Kd.V_mk HC0.out (Kd.F_below (Kd.C_F (Kd.heap_int .u64) HR0.out) (by repeat (first | (with_reducible first | exact HB.out | apply below_alloc | apply pw_below_drewN | apply below_drew1) | exact HB.out)))); rintro e w12 ⟨v440, rfl, ho0, hb⟩; have n0_ := Aside0.mk (Kd.V_lower (Kd.V_mono (ok' := fun k_ => True) ho0 (fun k_ hk_ => trivial)) (below_size (by repeat (first | (with_reducible first | exact HB.out | apply below_alloc | apply pw_below_drewN | apply below_drew1) | exact HB.out)))); have n1_ := Aside0.mk (below_step (by repeat (first | (with_reducible first | exact HB.out | apply below_alloc | apply pw_below_drewN | apply below_drew1) | exact HB.out)) hb); clear HB; have HO441 := n0_; have HB := n1_; clear n0_ n1_; (try clear hb); (try clear hb2); (try clear hk); (try clear hi); (try clear ho0); obtain ⟨Ao13, co13, eo13⟩ := Kd.V_slice HO441.out; subst eo13)); try go_wp2_with (first | (go_at_call 68; (with_reducible refine (galoisref01_trimV.calls k (fun k_ => k_ < w.heap.size) _ _ l0 t439 _ ?side1 A3.out).mono ?_); (case side1 => exact Kd.V_mk HC0.out (Kd.F_below (Kd.C_F (Kd.heap_int .u64) HR0.out) (by repeat (first | (with_reducible first | exact HB.out | apply below_alloc | apply pw_below_drewN | apply below_drew1) | exact HB.out)))); rintro e w12 ⟨v440, rfl, ho0, hb⟩; have n0_ := Aside0.mk (Kd.V_lower (Kd.V_mono (ok' := fun k_ => True) ho0 (fun k_ hk_ => trivial)) (below_size (by repeat (first | (with_reducible first | exact HB.out | apply below_alloc | apply pw_below_drewN | apply below_drew1) | exact HB.out)))); have n1_ := Aside0.mk (below_step (by repeat (first | (with_reducible first | exact HB.out | apply below_alloc | apply pw_below_drewN | apply below_drew1) | exact HB.out)) hb); clear HB; have HO441 := n0_; have HB := n1_; clear n0_ n1_; (try clear hb); (try clear hb2); (try clear hk); (try clear hi); (try clear ho0); obtain ⟨Ao13, co13, eo13⟩ := Kd.V_slice HO441.out; subst eo13)))
  go_ret
  exact ⟨by first | rfl | (simp [errW_none, errW_some] <;> rfl) | (simp [*, errW_none, errW_some] <;> rfl), by repeat (first | (with_reducible first | exact HB.out | apply below_alloc | apply pw_below_drewN | apply below_drew1) | exact HB.out)⟩
end Go.Proofs.Ytohkmnbnjacfaaa.All
namespace Go.Proofs.Ytohkmnbnjacfaaa.All
open Go.Proofs.YtohkmnbnjacfaaaX
open Go.RowKit Go.Proofs.YtohkmnbnjacfaaaW.PrintWords Go.Proofs.YtohkmnbnjacfaaaW.PrintLast Go.Proofs.YtohkmnbnjacfaaaW.PrintMore
attribute [local go_sem] max2_int min2_int max_two min_two max_three min_three max_four min_four
set_option linter.unusedVariables false
set_option linter.unusedSimpArgs false
mutual
def galoisref01_DivMod.l0 : Nat → List Int → Int → List Int → List Int → Int → Option (ByteArray × ByteArray)
 | 0, _, _, _, _, _ => none
 | k + 1, x7, x8, x9, x10, x11 => if x11 ≥ 0 then (galoisref01_DivMod.l1 k x7 x8 x9 x10 x11) else ((galoisref01_pack.f k x10).bind fun t458 => ((galoisref01_pack.f k x9).bind fun t459 => (some (t458, t459))))
def galoisref01_DivMod.l1 : Nat → List Int → Int → List Int → List Int → Int → Option (ByteArray × ByteArray)
 | 0, _, _, _, _, _ => none
 | k + 1, x7, x8, x9, x10, x11 => if 0 ≤ x11 then (if x11 ≤ (x9.length : Int) then ((galoisref01_below.f k (x9.drop (x11 : Int).toNat) x7).bind fun t464 => (if t464 = true then (galoisref01_DivMod.l0 k x7 x8 x9 x10 (wrap64 (x11 - 1))) else (if 0 ≤ (wrap64 (x11 + x8)) then (if (wrap64 (x11 + x8)) < (x9.length : Int) then (if 0 ≤ (wrap64 ((wrap64 (x11 + x8)) - 1)) then (if (wrap64 ((wrap64 (x11 + x8)) - 1)) < (x9.length : Int) then (if 0 ≤ (wrap64 (x8 - 1)) then (if (wrap64 (x8 - 1)) < (x7.length : Int) then (if (IntKind.u64.wrap ((rd x7 (wrap64 (x8 - 1))) + 1)) = 0 then (none) else (if x11 < (x10.length : Int) then (galoisref01_DivMod.l2 k x7 x8 x9 (x10.set (x11 : Int).toNat (IntKind.u64.wrap ((rd x10 x11) + (mx 1 (IntKind.u64.wrap (Int.tdiv (IntKind.u64.wrap ((IntKind.u64.wrap ((rd x9 (wrap64 (x11 + x8))) * 4294967296)) + (rd x9 (wrap64 ((wrap64 (x11 + x8)) - 1))))) (IntKind.u64.wrap ((rd x7 (wrap64 (x8 - 1))) + 1)))))))) x11 (mx 1 (IntKind.u64.wrap (Int.tdiv (IntKind.u64.wrap ((IntKind.u64.wrap ((rd x9 (wrap64 (x11 + x8))) * 4294967296)) + (rd x9 (wrap64 ((wrap64 (x11 + x8)) - 1))))) (IntKind.u64.wrap ((rd x7 (wrap64 (x8 - 1))) + 1))))) 0 0) else (none))) else (none)) else (none)) else (none)) else (none)) else (none)) else (none)))) else (none)) else (none)
def galoisref01_DivMod.l2 : Nat → List Int → Int → List Int → List Int → Int → Int → Int → Int → Option (ByteArray × ByteArray)
 | 0, _, _, _, _, _, _, _, _ => none
 | k + 1, x7, x8, x9, x10, x11, x12, x13, x14 => if x14 < x8 then (if 0 ≤ x14 then (if x14 < (x7.length : Int) then (if 0 ≤ (wrap64 (x11 + x14)) then (if (wrap64 (x11 + x14)) < (x9.length : Int) then (if (rd x9 (wrap64 (x11 + x14))) < (Go.bits .and .u64 (IntKind.u64.wrap ((IntKind.u64.wrap ((rd x7 x14) * x12)) + x13)) 4294967295) then ((some (x9.set ((wrap64 (x11 + x14)) : Int).toNat (IntKind.u64.wrap ((rd x9 (wrap64 (x11 + x14))) + 4294967296)) : List Int)).bind fun y473 => (galoisref01_DivMod.l2 k x7 x8 (y473.set ((wrap64 (x11 + x14)) : Int).toNat (IntKind.u64.wrap ((rd y473 (wrap64 (x11 + x14))) - (Go.bits .and .u64 (IntKind.u64.wrap ((IntKind.u64.wrap ((rd x7 x14) * x12)) + x13)) 4294967295)))) x10 x11 x12 (IntKind.u64.wrap (((IntKind.u64.wrap ((IntKind.u64.wrap ((rd x7 x14) * x12)) + x13)) / 4294967296) + 1)) (wrap64 (x14 + 1)))) else (galoisref01_DivMod.l2 k x7 x8 (x9.set ((wrap64 (x11 + x14)) : Int).toNat (IntKind.u64.wrap ((rd x9 (wrap64 (x11 + x14))) - (Go.bits .and .u64 (IntKind.u64.wrap ((IntKind.u64.wrap ((rd x7 x14) * x12)) + x13)) 4294967295)))) x10 x11 x12 ((IntKind.u64.wrap ((IntKind.u64.wrap ((rd x7 x14) * x12)) + x13)) / 4294967296) (wrap64 (x14 + 1)))) else (none)) else (none)) else (none)) else (none)) else (if 0 ≤ (wrap64 (x11 + x8)) then (if (wrap64 (x11 + x8)) < (x9.length : Int) then (galoisref01_DivMod.l1 k x7 x8 (x9.set ((wrap64 (x11 + x8)) : Int).toNat (IntKind.u64.wrap ((rd x9 (wrap64 (x11 + x8))) - x13))) x10 x11) else (none)) else (none))
end
def galoisref01_DivMod.f (k : Nat) (a0 : ByteArray) (a1 : ByteArray) : Option (ByteArray × ByteArray) := if a1.toList = ([] : List UInt8) then (some ((⟨#[]⟩ : ByteArray), (⟨#[]⟩ : ByteArray))) else ((galoisref01_limbs.f k a0).bind fun t446 => ((galoisref01_limbs.f k a1).bind fun t449 => (if t446.length < 17592186044416 then (if 0 ≤ (mx 0 (wrap64 ((wrap64 ((t446.length : Int) - (t449.length : Int))) + 1))) then (if (mx 0 (wrap64 ((wrap64 ((t446.length : Int) - (t449.length : Int))) + 1)) : Int).toNat ≤ 35184372088832 then ((some (List.replicate (mx 0 (wrap64 ((wrap64 ((t446.length : Int) - (t449.length : Int))) + 1)) : Int).toNat 0 : List Int)).bind fun y455 => (galoisref01_DivMod.l0 k t449 (t449.length : Int) (t446 ++ [0]) y455 (wrap64 ((y455.length : Int) - 1)))) else (none)) else (none)) else (none))))
theorem galoisref01_DivMod.mono_l : ∀ k, (∀ y0 y1 y2 y3 y4, LeO (galoisref01_DivMod.l0 k y0 y1 y2 y3 y4) (galoisref01_DivMod.l0 (k + 1) y0 y1 y2 y3 y4)) ∧ (∀ y0 y1 y2 y3 y4, LeO (galoisref01_DivMod.l1 k y0 y1 y2 y3 y4) (galoisref01_DivMod.l1 (k + 1) y0 y1 y2 y3 y4)) ∧ (∀ y0 y1 y2 y3 y4 y5 y6 y7, LeO (galoisref01_DivMod.l2 k y0 y1 y2 y3 y4 y5 y6 y7) (galoisref01_DivMod.l2 (k + 1) y0 y1 y2 y3 y4 y5 y6 y7))
 | 0 => ⟨fun _ _ _ _ _ r h => by simp [galoisref01_DivMod.l0] at h, fun _ _ _ _ _ r h => by simp [galoisref01_DivMod.l1] at h, fun _ _ _ _ _ _ _ _ r h => by simp [galoisref01_DivMod.l2] at h⟩
 | k + 1 => by
  obtain ⟨ih0, ih1, ih2⟩ := galoisref01_DivMod.mono_l k
  refine ⟨?_, ?_, ?_⟩
  ·intro y0 y1 y2 y3 y4
   unfold galoisref01_DivMod.l0
   repeat' first
   | (with_reducible exact ih0 _ _ _ _ _)
   | (with_reducible exact ih1 _ _ _ _ _)
   | (with_reducible exact ih2 _ _ _ _ _ _ _ _)
   | (with_reducible exact galoisref01_below.mono _ _ _)
   | (with_reducible exact galoisref01_limbs.mono _ _)
   | (with_reducible exact galoisref01_pack.mono _ _)
   | (with_reducible exact LeO.refl _)
   | (with_reducible exact LeO.none _)
   | (with_reducible refine LeO.ite ?_ ?_)
   | (with_reducible refine LeO.bind ?_ (fun _ => ?_))
   | exact ih0 _ _ _ _ _
   | exact ih1 _ _ _ _ _
   | exact ih2 _ _ _ _ _ _ _ _
   | exact galoisref01_below.mono _ _ _
   | exact galoisref01_limbs.mono _ _
   | exact galoisref01_pack.mono _ _
   | exact LeO.none _
   | refine LeO.ite ?_ ?_
   | refine LeO.bind ?_ (fun _ => ?_)
  ·intro y0 y1 y2 y3 y4
   unfold galoisref01_DivMod.l1
   repeat' first
   | (with_reducible exact ih0 _ _ _ _ _)
   | (with_reducible exact ih1 _ _ _ _ _)
   | (with_reducible exact ih2 _ _ _ _ _ _ _ _)
   | (with_reducible exact galoisref01_below.mono _ _ _)
   | (with_reducible exact galoisref01_limbs.mono _ _)
   | (with_reducible exact galoisref01_pack.mono _ _)
   | (with_reducible exact LeO.refl _)
   | (with_reducible exact LeO.none _)
   | (with_reducible refine LeO.ite ?_ ?_)
   | (with_reducible refine LeO.bind ?_ (fun _ => ?_))
   | exact ih0 _ _ _ _ _
   | exact ih1 _ _ _ _ _
   | exact ih2 _ _ _ _ _ _ _ _
   | exact galoisref01_below.mono _ _ _
   | exact galoisref01_limbs.mono _ _
   | exact galoisref01_pack.mono _ _
   | exact LeO.none _
   | refine LeO.ite ?_ ?_
   | refine LeO.bind ?_ (fun _ => ?_)
  ·intro y0 y1 y2 y3 y4 y5 y6 y7
   unfold galoisref01_DivMod.l2
   repeat' first
   | (with_reducible exact ih0 _ _ _ _ _)
   | (with_reducible exact ih1 _ _ _ _ _)
   | (with_reducible exact ih2 _ _ _ _ _ _ _ _)
   | (with_reducible exact galoisref01_below.mono _ _ _)
   | (with_reducible exact galoisref01_limbs.mono _ _)
   | (with_reducible exact galoisref01_pack.mono _ _)
   | (with_reducible exact LeO.refl _)
   | (with_reducible exact LeO.none _)
   | (with_reducible refine LeO.ite ?_ ?_)
   | (with_reducible refine LeO.bind ?_ (fun _ => ?_))
   | exact ih0 _ _ _ _ _
   | exact ih1 _ _ _ _ _
   | exact ih2 _ _ _ _ _ _ _ _
   | exact galoisref01_below.mono _ _ _
   | exact galoisref01_limbs.mono _ _
   | exact galoisref01_pack.mono _ _
   | exact LeO.none _
   | refine LeO.ite ?_ ?_
   | refine LeO.bind ?_ (fun _ => ?_)
theorem galoisref01_DivMod.mono : ∀ a0 a1 k, LeO (galoisref01_DivMod.f k a0 a1) (galoisref01_DivMod.f (k + 1) a0 a1) := by
 intro a0 a1 k
 obtain ⟨ih0, ih1, ih2⟩ := galoisref01_DivMod.mono_l k
 unfold galoisref01_DivMod.f
 repeat' first
   | (with_reducible exact ih0 _ _ _ _ _)
   | (with_reducible exact ih1 _ _ _ _ _)
   | (with_reducible exact ih2 _ _ _ _ _ _ _ _)
   | (with_reducible exact galoisref01_below.mono _ _ _)
   | (with_reducible exact galoisref01_limbs.mono _ _)
   | (with_reducible exact galoisref01_pack.mono _ _)
   | (with_reducible exact LeO.refl _)
   | (with_reducible exact LeO.none _)
   | (with_reducible refine LeO.ite ?_ ?_)
   | (with_reducible refine LeO.bind ?_ (fun _ => ?_))
   | exact ih0 _ _ _ _ _
   | exact ih1 _ _ _ _ _
   | exact ih2 _ _ _ _ _ _ _ _
   | exact galoisref01_below.mono _ _ _
   | exact galoisref01_limbs.mono _ _
   | exact galoisref01_pack.mono _ _
   | exact LeO.none _
   | refine LeO.ite ?_ ?_
   | refine LeO.bind ?_ (fun _ => ?_)
def galoisref01_DivMod.T11 : Bool × List (List Nat × List Nat) := (true, [([], []), ([], []), ([], []), ([1, 2], [1, 2]), ([0, 3], [0, 3]), ([4], [4]), ([5], [5]), ([], []), ([], []), ([], []), ([8, 9], [8, 9]), ([10], [10]), ([7, 11], [7, 11]), ([12], [12]), ([6, 13], [6, 13]), ([], []), ([], []), ([16], [16]), ([15, 17], [15, 17]), ([18], [18]), ([19], [19]), ([14, 20], [14, 20]), ([21], [21]), ([22, 0, 1, 2, 3, 4, 5, 6, 7, 8, 9, 10, 11, 12, 13, 14, 15, 16, 17, 18, 19, 20, 21, 22], [22])])
def galoisref01_DivMod.B11 : List Nat := [0, 0, 0, 6, 15, 31, 63, 0, 0, 0, 768, 1792, 3968, 8064, 16383, 0, 0, 65536, 229376, 491520, 1015808, 2097151, 4194303, 8388607]
theorem galoisref01_DivMod.tab11 : rtab .any (opsOf Try.f18 11) = galoisref01_DivMod.T11 := by kernel_rfl
theorem galoisref01_DivMod.bits11 : waitsOk galoisref01_DivMod.T11.2 galoisref01_DivMod.B11 = true := by kernel_rfl
set_option maxHeartbeats 8000000 in
set_option maxRecDepth 100000 in
theorem galoisref01_DivMod.calls (k : Nat) (a0 : ByteArray) (a1 : ByteArray) (r1 : ByteArray) (r2 : ByteArray) (w : World) (h : galoisref01_DivMod.f k a0 a1 = some (r1, r2)) :
  Calls Try.prog 18 #[.string a0, .string a1] w fun e w' => e = .returned (.tuple #[.string r1, .string r2]) ∧ Below w.heap.size w w' := by
 have HB := Aside0.mk (Below.refl w.heap.size w)
 have H : (if a1.toList = ([] : List UInt8) then (some ((⟨#[]⟩ : ByteArray), (⟨#[]⟩ : ByteArray))) else ((galoisref01_limbs.f k a0).bind fun t446 => ((galoisref01_limbs.f k a1).bind fun t449 => (if t446.length < 17592186044416 then (if 0 ≤ (mx 0 (wrap64 ((wrap64 ((t446.length : Int) - (t449.length : Int))) + 1))) then (if (mx 0 (wrap64 ((wrap64 ((t446.length : Int) - (t449.length : Int))) + 1)) : Int).toNat ≤ 35184372088832 then ((some (List.replicate (mx 0 (wrap64 ((wrap64 ((t446.length : Int) - (t449.length : Int))) + 1)) : Int).toNat 0 : List Int)).bind fun y455 => (galoisref01_DivMod.l0 k t449 (t449.length : Int) (t446 ++ [0]) y455 (wrap64 ((y455.length : Int) - 1)))) else (none)) else (none)) else (none))))) = some (r1, r2) := h
 clear h
 by_cases c3 : a1.toList = ([] : List UInt8)
 ·rw [if_pos c3] at H
  have c3b0 : (a1.toList == ([] : List UInt8)) = true := beq_iff_eq.mpr c3
  have c3b1 : (a1.toList != ([] : List UInt8)) = false := bne_eq_false_iff_eq.mpr c3
  clear c3
  simp only [Option.some.injEq, Prod.mk.injEq] at H
  obtain ⟨rfl, rfl⟩ := H
  go_enter Try.func18, Try.ntmps18
  go_wp2
  go_ret2
  exact ⟨by first | rfl | (simp [errW_none, errW_some] <;> rfl) | (simp [*, errW_none, errW_some] <;> rfl), by repeat (first | (with_reducible first | exact HB.out | apply below_alloc | apply pw_below_drewN | apply below_drew1) | exact HB.out)⟩
 ·rw [if_neg c3] at H
  have c3b0 : (a1.toList == ([] : List UInt8)) = false := beq_eq_false_iff_ne.mpr c3
  have c3b1 : (a1.toList != ([] : List UInt8)) = true := bne_iff_ne.mpr c3
  replace H := Option.bind_eq_some_iff.mp H
  obtain ⟨t446, A40, H⟩ := H
  replace H : ((galoisref01_limbs.f k a1).bind fun t449 => (if t446.length < 17592186044416 then (if 0 ≤ (mx 0 (wrap64 ((wrap64 ((t446.length : Int) - (t449.length : Int))) + 1))) then (if (mx 0 (wrap64 ((wrap64 ((t446.length : Int) - (t449.length : Int))) + 1)) : Int).toNat ≤ 35184372088832 then ((some (List.replicate (mx 0 (wrap64 ((wrap64 ((t446.length : Int) - (t449.length : Int))) + 1)) : Int).toNat 0 : List Int)).bind fun y455 => (galoisref01_DivMod.l0 k t449 (t449.length : Int) (t446 ++ [0]) y455 (wrap64 ((y455.length : Int) - 1)))) else (none)) else (none)) else (none))) = some (r1, r2) := H
  have A4 := Aside0.mk A40
  clear A40
  replace H := Option.bind_eq_some_iff.mp H
  obtain ⟨t449, A50, H⟩ := H
  replace H : (if t446.length < 17592186044416 then (if 0 ≤ (mx 0 (wrap64 ((wrap64 ((t446.length : Int) - (t449.length : Int))) + 1))) then (if (mx 0 (wrap64 ((wrap64 ((t446.length : Int) - (t449.length : Int))) + 1)) : Int).toNat ≤ 35184372088832 then ((some (List.replicate (mx 0 (wrap64 ((wrap64 ((t446.length : Int) - (t449.length : Int))) + 1)) : Int).toNat 0 : List Int)).bind fun y455 => (galoisref01_DivMod.l0 k t449 (t449.length : Int) (t446 ++ [0]) y455 (wrap64 ((y455.length : Int) - 1)))) else (none)) else (none)) else (none)) = some (r1, r2) := H
  have A5 := Aside0.mk A50
  clear A50
  by_cases c6 : t446.length < 17592186044416
  ·rw [if_pos c6] at H
   have LMc6 := Aside0.mk c6
   clear c6
   obtain ⟨y452, hy452⟩ : ∃ y_ : List Int, y_ = (t446 ++ [0]) := ⟨_, rfl⟩
   replace H : (if 0 ≤ (mx 0 (wrap64 ((wrap64 ((t446.length : Int) - (t449.length : Int))) + 1))) then (if (mx 0 (wrap64 ((wrap64 ((t446.length : Int) - (t449.length : Int))) + 1)) : Int).toNat ≤ 35184372088832 then ((some (List.replicate (mx 0 (wrap64 ((wrap64 ((t446.length : Int) - (t449.length : Int))) + 1)) : Int).toNat 0 : List Int)).bind fun y455 => (galoisref01_DivMod.l0 k t449 (t449.length : Int) y452 y455 (wrap64 ((y455.length : Int) - 1)))) else (none)) else (none)) = some (r1, r2) := by first | (rw [hy452]; with_reducible exact H) | (have H2_ := (Option.bind_some _ _).symm.trans H; rw [hy452]; with_reducible exact H2_) | (have H2_ := (Option.bind_some _ _).symm.trans H; with_reducible exact H2_) | with_reducible exact H | (rw [hy452]; exact H) | exact H
   have Ny452 := Aside0.mk hy452
   clear hy452
   obtain ⟨ji7, hji7⟩ : ∃ j_ : Int, (mx 0 (wrap64 ((wrap64 ((t446.length : Int) - (t449.length : Int))) + 1))) = j_ := ⟨_, rfl⟩
   replace H : (if 0 ≤ (ji7) then (if (ji7 : Int).toNat ≤ 35184372088832 then ((some (List.replicate (ji7 : Int).toNat 0 : List Int)).bind fun y455 => (galoisref01_DivMod.l0 k t449 (t449.length : Int) y452 y455 (wrap64 ((y455.length : Int) - 1)))) else (none)) else (none)) = some (r1, r2) := by first | (rw [hji7] at H; exact H) | (simp only [hji7] at H ⊢; exact H)
   (try rw [hji7] at A4)
   (try rw [hji7] at A5)
   (try (have hji7l : 0 ≤ ji7 := by (rw [← hji7]; unfold mx; (repeat' split) <;> omega)))
   (try (have hji7m : 0 ≤ ji7 := by omega))
   have hji7_ : (if 0 < (wrap64 ((wrap64 ((t446.length : Int) - (t449.length : Int))) + 1)) then (wrap64 ((wrap64 ((t446.length : Int) - (t449.length : Int))) + 1)) else 0) = ji7 := hji7
   by_cases c8 : 0 ≤ (ji7)
   ·rw [if_pos c8] at H
    have c8b0 := eq_true c8
    have c8b1 : decide (0 ≤ (ji7)) = true := decide_eq_true c8
    clear c8
    by_cases c9 : (ji7 : Int).toNat ≤ 35184372088832
    ·rw [if_pos c9] at H
     have c9b0 := eq_true c9
     have c9b1 : decide ((ji7 : Int).toNat ≤ 35184372088832) = true := decide_eq_true c9
     clear c9
     obtain ⟨y455, hy455⟩ : ∃ y_ : List Int, y_ = (List.replicate (ji7 : Int).toNat 0) := ⟨_, rfl⟩
     replace H : (galoisref01_DivMod.l0 k t449 (t449.length : Int) y452 y455 (wrap64 ((y455.length : Int) - 1))) = some (r1, r2) := by first | (rw [hy455]; with_reducible exact H) | (have H2_ := (Option.bind_some _ _).symm.trans H; rw [hy455]; with_reducible exact H2_) | (have H2_ := (Option.bind_some _ _).symm.trans H; with_reducible exact H2_) | with_reducible exact H | (rw [hy455]; exact H) | exact H
     have Ny455 := Aside0.mk hy455
     clear hy455
     have H' := Aside0.mk H
     clear H
     go_enter Try.func18, Try.ntmps18
     go_wp2_with (first | ((with_reducible refine gate_callee (f := 51) rfl ?_); refine goesL_ (some 19) rfl rfl Try.func51 (by kernel_rfl) rfl #[.string a0] rfl (by (try simp only [List.map_toArray, List.map_cons, List.map_nil]); first | done | rfl | (simp only [List.length_drop, List.length_take]; rfl)) ?_; (with_reducible refine (galoisref01_limbs.calls k a0 t446 _ A4.out).mono ?_); rintro e w10 ⟨v447, rfl, ho0, hb⟩; refine ⟨_, rfl, ?_⟩; have n0_ := Aside0.mk (Kd.R_lower ho0 (below_size (by repeat (first | (with_reducible first | exact HB.out | apply below_alloc | apply pw_below_drewN | apply below_drew1) | exact HB.out)))); have n1_ := Aside0.mk (below_step (by repeat (first | (with_reducible first | exact HB.out | apply below_alloc | apply pw_below_drewN | apply below_drew1) | exact HB.out)) hb); clear HB; have HO448 := n0_; have HB := n1_; clear n0_ n1_; (try clear hb); (try clear hb2); (try clear hk); (try clear hi); (try clear ho0); obtain ⟨Ao14, co14, eo14⟩ := Kd.R_slice HO448.out; subst eo14) | ((with_reducible refine gate_callee (f := 51) rfl ?_); refine goesL_ (some 21) rfl rfl Try.func51 (by kernel_rfl) rfl #[.string a1] rfl (by (try simp only [List.map_toArray, List.map_cons, List.map_nil]); first | done | rfl | (simp only [List.length_drop, List.length_take]; rfl)) ?_; (with_reducible refine (galoisref01_limbs.calls k a1 t449 _ A5.out).mono ?_); rintro e w11 ⟨v450, rfl, ho0, hb⟩; refine ⟨_, rfl, ?_⟩; have n0_ := Aside0.mk (Kd.R_elder' (by (with_reducible repeat (first | apply Kd.R_alloc | apply Kd.R_drewN | apply Kd.R_drew)); exact HO448.out) (Kd.R_base ho0) hb); have n1_ := Aside0.mk (Kd.R_lower (Kd.R_new' ho0 (Kd.R_lt (by (with_reducible repeat (first | apply Kd.R_alloc | apply Kd.R_drewN | apply Kd.R_drew)); exact HO448.out))) (below_size (by repeat (first | (with_reducible first | exact HB.out | apply below_alloc | apply pw_below_drewN | apply below_drew1) | exact HB.out)))); have n2_ := Aside0.mk (below_step (by repeat (first | (with_reducible first | exact HB.out | apply below_alloc | apply pw_below_drewN | apply below_drew1) | exact HB.out)) hb); clear HO448; clear HB; have HO448 := n0_; have HO451 := n1_; have HB := n2_; clear n0_ n1_ n2_; (try clear hb); (try clear hb2); (try clear hk); (try clear hi); (try clear ho0); obtain ⟨Ao12, co12, eo12⟩ := Kd.R_slice HO451.out; subst eo12) | ((with_reducible refine gate_builtin (b := .append) (xs := #[.tmp 24, .tmp 25]) rfl ?_); at_builtin; refine Kd.R_append (Kd.int .u64) (w0 := w) w.heap.size rfl (.tmp 24) (.tmp 25) 68 49 (.int .u64 0) 8 rfl Try.underlying68 info49 rfl (by decide) (by omega) (.slice Ao14 t446.length co14) t446 0 [.int .u64 0] (fun k_ => some k_ ≠ (.slice Ao12 t449.length co12 : Value).ownBlock) (fun _ => False) rfl rfl ?aP (fun _ hk => hk.elim) ?aF ?aO ?aB ?aS ?aL ?_; (case aP => exact rfl); (case aB => exact (by repeat (first | (with_reducible first | exact HB.out | apply below_alloc | apply pw_below_drewN | apply below_drew1) | exact HB.out))); (case aF => exact (fun k_ hk => Kd.fresh' (Kd.R_lt (by (with_reducible repeat (first | apply Kd.R_alloc | apply Kd.R_drewN | apply Kd.R_drew)); exact HO451.out)) k_ hk)); (case aO => exact (by (with_reducible repeat (first | apply Kd.R_alloc | apply Kd.R_drewN | apply Kd.R_drew)); exact Kd.R_mono HO448.out (fun _ hk => hk.2))); (case aS => exact (below_size (by repeat (first | (with_reducible first | exact HB.out | apply below_alloc | apply pw_below_drewN | apply below_drew1) | exact HB.out)))); (case aL => have := LMc6.out; omega); intro v453 w13 ho hb hg hat; rw [← Ny452.out] at ho; have n0_ := Aside0.mk (Kd.R_after (ok := (fun _ => True)) (by (with_reducible repeat (first | apply Kd.R_alloc | apply Kd.R_drewN | apply Kd.R_drew)); exact HO451.out) hg hat); have n1_ := Aside0.mk (hb); have n2_ := Aside0.mk (ho); clear HO451; clear HB; clear HO448; have HO451 := n0_; have HB := n1_; have HO454 := n2_; clear n0_ n1_ n2_; clear ho hb hg hat) | ((with_reducible refine gate_dst (N := 33) rfl ?_); refine Kd.R_make (Kd.int .u64) _ 49 rfl (N := 33) rfl 68 _ _ rfl ji7 rfl rfl Try.underlying68 (.int .u64 0) 8 info49 rfl (by decide) (by omega) 0 (ok := fun _ => True) (okp := fun _ => True) rfl (fun _ hk => hk) trivial (of_decide_eq_true (by first | (with_reducible assumption) | assumption)) (Nat.le_trans (Nat.mul_le_mul_right _ (of_decide_eq_true (by first | (with_reducible assumption) | assumption) : ji7.toNat ≤ 35184372088832)) (by omega)) (Below.refl _ _) (Nat.le_refl _) ?_; intro v456 w15 ho16 hb hg_ hnew_; clear hg_ hnew_; (first | rw [← Ny455.out] at ho16 | (simp only [Int.reduceToNat] at ho16; rw [← Ny455.out] at ho16)); have n0_ := Aside0.mk (Kd.R_elder' (by (with_reducible repeat (first | apply Kd.R_alloc | apply Kd.R_drewN | apply Kd.R_drew)); exact HO451.out) (Kd.R_base ho16) hb); have n1_ := Aside0.mk (Kd.R_elder' (by (with_reducible repeat (first | apply Kd.R_alloc | apply Kd.R_drewN | apply Kd.R_drew)); exact HO454.out) (Kd.R_base ho16) hb); have n2_ := Aside0.mk (Kd.R_lower (Kd.R_new' (Kd.R_new' ho16 (Kd.R_lt (by (with_reducible repeat (first | apply Kd.R_alloc | apply Kd.R_drewN | apply Kd.R_drew)); exact HO451.out))) (Kd.R_lt (by (with_reducible repeat (first | apply Kd.R_alloc | apply Kd.R_drewN | apply Kd.R_drew)); exact HO454.out))) (below_size (by repeat (first | (with_reducible first | exact HB.out | apply below_alloc | apply pw_below_drewN | apply below_drew1) | exact HB.out)))); have n3_ := Aside0.mk (below_step (by repeat (first | (with_reducible first | exact HB.out | apply below_alloc | apply pw_below_drewN | apply below_drew1) | exact HB.out)) hb); clear HO451; clear HO454; clear HB; have HO451 := n0_; have HO454 := n1_; have HO457 := n2_; have HB := n3_; clear n0_ n1_ n2_ n3_; clear hb ho16; obtain ⟨Ao17, co17, eo17⟩ := Kd.R_slice HO457.out; subst eo17))
     go_loopg [11] k (fun kq v11 w' => ∃ (x9_1 : List Int) (x10_1 : List Int) (x11_1 : Int), v11 = .int .i64 x11_1 ∧ Aside0 (galoisref01_DivMod.l0 kq t449 (t449.length : Int) x9_1 x10_1 x11_1 = some (r1, r2)) ∧ Aside0 (kq ≤ k) ∧ Aside0 (Kd.R (Kd.int .u64) 49 w' w.heap.size (fun k_ => some k_ ≠ (v453 : Value).ownBlock ∧ some k_ ≠ ((.slice Ao17 y455.length co17) : Value).ownBlock) (.slice Ao12 t449.length co12) t449) ∧ Aside0 (Kd.R (Kd.int .u64) 49 w' w.heap.size (fun k_ => some k_ ≠ ((.slice Ao12 t449.length co12) : Value).ownBlock ∧ some k_ ≠ ((.slice Ao17 y455.length co17) : Value).ownBlock) v453 x9_1) ∧ Aside0 (Kd.R (Kd.int .u64) 49 w' w.heap.size (fun k_ => some k_ ≠ ((.slice Ao12 t449.length co12) : Value).ownBlock ∧ some k_ ≠ (v453 : Value).ownBlock) (.slice Ao17 y455.length co17) x10_1) ∧ Aside0 (Below w.heap.size w w'))
     case atStart => exact ⟨(y452), (y455), (wrap64 ((y455.length : Int) - 1)), (by first | rfl | (simp; done) | (simp [*]; done)), H', ⟨Nat.le_refl _⟩, ⟨by (with_reducible repeat (first | apply Kd.R_alloc | apply Kd.R_drewN | apply Kd.R_drew)); exact Kd.R_mono HO451.out (fun _ hk => ⟨hk.1.2, hk.2⟩)⟩, ⟨by (with_reducible repeat (first | apply Kd.R_alloc | apply Kd.R_drewN | apply Kd.R_drew)); exact HO454.out⟩, ⟨by (with_reducible repeat (first | apply Kd.R_alloc | apply Kd.R_drewN | apply Kd.R_drew)); exact Kd.R_mono HO457.out (fun _ hk => ⟨hk.1.2, hk.2⟩)⟩, ⟨by repeat (first | (with_reducible first | exact HB.out | apply below_alloc | apply pw_below_drewN | apply below_drew1) | exact HB.out)⟩⟩
     case round =>
      clear H'
      try clear c1
      try clear p2
      try clear c3
      try clear c3b0
      try clear c3b1
      try clear c5
      try clear c6
      try clear p6
      try clear c8
      try clear c8b0
      try clear c8b1
      try clear c9
      try clear c9b0
      try clear c9b1
      obtain ⟨x9_1, x10_1, x11_1, rfl, HA, HK1, HO_7, HO_9, HO_10, HB⟩ := hrel
      have hl10_1 := (Kd.R_reads' HO_10.out).1
      rw [hl10_1] at HO_10
      (try simp only [hl10_1])
      (try simp only [hl10_1] at HO_7)
      (try simp only [hl10_1] at HO_9)
      cases gk with
      | zero => exact absurd HA.out (by simp [galoisref01_DivMod.l0])
      | succ k1 =>
       have H := HA.out
       clear HA
       simp only [galoisref01_DivMod.l0] at H
       by_cases c18 : x11_1 ≥ 0
       ·rw [if_pos c18] at H
        have c18b0 : decide (0 ≤ x11_1) = true := decide_eq_true c18
        clear c18
        have H' := Aside0.mk H
        clear H
        go_wp2
        go_loopg [] k1 (fun kq w' => ∃ (x9_2 : List Int) (x10_2 : List Int), Aside0 (galoisref01_DivMod.l1 kq t449 (t449.length : Int) x9_2 x10_2 x11_1 = some (r1, r2)) ∧ Aside0 (kq ≤ k1) ∧ Aside0 (Kd.R (Kd.int .u64) 49 w' w.heap.size (fun k_ => some k_ ≠ (v453 : Value).ownBlock ∧ some k_ ≠ ((.slice Ao17 x10_1.length co17) : Value).ownBlock) (.slice Ao12 t449.length co12) t449) ∧ Aside0 (Kd.R (Kd.int .u64) 49 w' w.heap.size (fun k_ => some k_ ≠ ((.slice Ao12 t449.length co12) : Value).ownBlock ∧ some k_ ≠ ((.slice Ao17 x10_1.length co17) : Value).ownBlock) v453 x9_2) ∧ Aside0 (Kd.R (Kd.int .u64) 49 w' w.heap.size (fun k_ => some k_ ≠ ((.slice Ao12 t449.length co12) : Value).ownBlock ∧ some k_ ≠ (v453 : Value).ownBlock) (.slice Ao17 x10_1.length co17) x10_2) ∧ Aside0 (Below w.heap.size w w'))
        case atStart => exact ⟨(x9_1), (x10_1), H', ⟨Nat.le_refl _⟩, ⟨by (try simp only [hl10_1]); (with_reducible repeat (first | apply Kd.R_alloc | apply Kd.R_drewN | apply Kd.R_drew)); exact HO_7.out⟩, ⟨by (try simp only [hl10_1]); (with_reducible repeat (first | apply Kd.R_alloc | apply Kd.R_drewN | apply Kd.R_drew)); exact HO_9.out⟩, ⟨by (try simp only [hl10_1]); (with_reducible repeat (first | apply Kd.R_alloc | apply Kd.R_drewN | apply Kd.R_drew)); exact HO_10.out⟩, ⟨by repeat (first | (with_reducible first | exact HB.out | apply below_alloc | apply pw_below_drewN | apply below_drew1) | exact HB.out)⟩⟩
        case round =>
         clear H'
         try clear c1
         try clear p2
         try clear c3
         try clear c3b0
         try clear c3b1
         try clear c5
         try clear c6
         try clear p6
         try clear c8
         try clear c8b0
         try clear c8b1
         try clear c9
         try clear c9b0
         try clear c9b1
         try clear c18
         try clear c18b0
         try clear p2
         try clear p6
         obtain ⟨x9_2, x10_2, HA, HK2, HO_7, HO_9, HO_10, HB⟩ := hrel
         have hl10_2 := (Kd.R_reads' HO_10.out).1
         rw [hl10_2] at HO_10
         (try simp only [hl10_2])
         (try simp only [hl10_2] at HO_7)
         (try simp only [hl10_2] at HO_9)
         cases gk with
         | zero => exact absurd HA.out (by simp [galoisref01_DivMod.l1])
         | succ k2 =>
          have H := HA.out
          clear HA
          simp only [galoisref01_DivMod.l1] at H
          by_cases c19 : 0 ≤ x11_1
          ·rw [if_pos c19] at H
           have c19b0 := eq_true c19
           have c19b1 : decide (0 ≤ x11_1) = true := decide_eq_true c19
           clear c19
           by_cases c20 : x11_1 ≤ (x9_2.length : Int)
           ·rw [if_pos c20] at H
            have c20b0 := eq_true c20
            have c20b1 : decide (x11_1 ≤ (x9_2.length : Int)) = true := decide_eq_true c20
            (try (have c20b1y := c20b1; simp only [hl10_1, hl10_2] at c20b1y))
            clear c20
            obtain ⟨y460, hy460⟩ : ∃ y_ : List Int, y_ = (x9_2.drop (x11_1 : Int).toNat) := ⟨_, rfl⟩
            replace H : ((galoisref01_below.f k2 y460 t449).bind fun t464 => (if t464 = true then (galoisref01_DivMod.l0 k2 t449 (t449.length : Int) x9_2 x10_2 (wrap64 (x11_1 - 1))) else (if 0 ≤ (wrap64 (x11_1 + (t449.length : Int))) then (if (wrap64 (x11_1 + (t449.length : Int))) < (x9_2.length : Int) then (if 0 ≤ (wrap64 ((wrap64 (x11_1 + (t449.length : Int))) - 1)) then (if (wrap64 ((wrap64 (x11_1 + (t449.length : Int))) - 1)) < (x9_2.length : Int) then (if 0 ≤ (wrap64 ((t449.length : Int) - 1)) then (if (wrap64 ((t449.length : Int) - 1)) < (t449.length : Int) then (if (IntKind.u64.wrap ((rd t449 (wrap64 ((t449.length : Int) - 1))) + 1)) = 0 then (none) else (if x11_1 < (x10_2.length : Int) then (galoisref01_DivMod.l2 k2 t449 (t449.length : Int) x9_2 (x10_2.set (x11_1 : Int).toNat (IntKind.u64.wrap ((rd x10_2 x11_1) + (mx 1 (IntKind.u64.wrap (Int.tdiv (IntKind.u64.wrap ((IntKind.u64.wrap ((rd x9_2 (wrap64 (x11_1 + (t449.length : Int)))) * 4294967296)) + (rd x9_2 (wrap64 ((wrap64 (x11_1 + (t449.length : Int))) - 1))))) (IntKind.u64.wrap ((rd t449 (wrap64 ((t449.length : Int) - 1))) + 1)))))))) x11_1 (mx 1 (IntKind.u64.wrap (Int.tdiv (IntKind.u64.wrap ((IntKind.u64.wrap ((rd x9_2 (wrap64 (x11_1 + (t449.length : Int)))) * 4294967296)) + (rd x9_2 (wrap64 ((wrap64 (x11_1 + (t449.length : Int))) - 1))))) (IntKind.u64.wrap ((rd t449 (wrap64 ((t449.length : Int) - 1))) + 1))))) 0 0) else (none))) else (none)) else (none)) else (none)) else (none)) else (none)) else (none)))) = some (r1, r2) := by first | (rw [hy460]; with_reducible exact H) | (have H2_ := (Option.bind_some _ _).symm.trans H; rw [hy460]; with_reducible exact H2_) | (have H2_ := (Option.bind_some _ _).symm.trans H; with_reducible exact H2_) | with_reducible exact H | (rw [hy460]; exact H) | exact H
            have Ny460 := Aside0.mk hy460
            clear hy460
            replace H := Option.bind_eq_some_iff.mp H
            obtain ⟨t464, A210, H⟩ := H
            replace H : (if t464 = true then (galoisref01_DivMod.l0 k2 t449 (t449.length : Int) x9_2 x10_2 (wrap64 (x11_1 - 1))) else (if 0 ≤ (wrap64 (x11_1 + (t449.length : Int))) then (if (wrap64 (x11_1 + (t449.length : Int))) < (x9_2.length : Int) then (if 0 ≤ (wrap64 ((wrap64 (x11_1 + (t449.length : Int))) - 1)) then (if (wrap64 ((wrap64 (x11_1 + (t449.length : Int))) - 1)) < (x9_2.length : Int) then (if 0 ≤ (wrap64 ((t449.length : Int) - 1)) then (if (wrap64 ((t449.length : Int) - 1)) < (t449.length : Int) then (if (IntKind.u64.wrap ((rd t449 (wrap64 ((t449.length : Int) - 1))) + 1)) = 0 then (none) else (if x11_1 < (x10_2.length : Int) then (galoisref01_DivMod.l2 k2 t449 (t449.length : Int) x9_2 (x10_2.set (x11_1 : Int).toNat (IntKind.u64.wrap ((rd x10_2 x11_1) + (mx 1 (IntKind.u64.wrap (Int.tdiv (IntKind.u64.wrap ((IntKind.u64.wrap ((rd x9_2 (wrap64 (x11_1 + (t449.length : Int)))) * 4294967296)) + (rd x9_2 (wrap64 ((wrap64 (x11_1 + (t449.length : Int))) - 1))))) (IntKind.u64.wrap ((rd t449 (wrap64 ((t449.length : Int) - 1))) + 1)))))))) x11_1 (mx 1 (IntKind.u64.wrap (Int.tdiv (IntKind.u64.wrap ((IntKind.u64.wrap ((rd x9_2 (wrap64 (x11_1 + (t449.length : Int)))) * 4294967296)) + (rd x9_2 (wrap64 ((wrap64 (x11_1 + (t449.length : Int))) - 1))))) (IntKind.u64.wrap ((rd t449 (wrap64 ((t449.length : Int) - 1))) + 1))))) 0 0) else (none))) else (none)) else (none)) else (none)) else (none)) else (none)) else (none))) = some (r1, r2) := H
            have A21 := Aside0.mk A210
            clear A210
            by_cases c22 : t464 = true
            ·subst c22
             have H1 : (galoisref01_DivMod.l0 k2 t449 (t449.length : Int) x9_2 x10_2 (wrap64 (x11_1 - 1))) = some (r1, r2) := by rw [if_pos rfl] at H; exact H
             clear H
             have H := H1
             clear H1
             have H' := Aside0.mk H
             clear H
             obtain ⟨Ao24, co24, eo24⟩ := Kd.R_slice HO_9.out
             subst eo24
             have q23 : (x11_1 : Int) ≤ ((x9_2.length : Int) : Int) := of_decide_eq_true (by first | (with_reducible assumption) | assumption)
             obtain ⟨i023, hi023, _, hsz23, _⟩ := info_parts info49
             have hroom23 : x9_2.length ≤ co24 := (Kd.R_reads' HO_9.out).2.1
             have hC23 : Kd.C (Kd.int .u64) _ Ao24 x9_2.length x9_2 := (Kd.R_reads' HO_9.out).2.2
             have q023 : (0 : Int) ≤ (x11_1 : Int) := of_decide_eq_true (by first | (with_reducible assumption) | assumption)
             have hcut23 := cut_from (P := Try.prog) 68 49 .i64 Try.underlying68 hi023 1 hsz23 Ao24 x9_2.length co24 x11_1 q023 q23
             have hr23 := Kd.C_drop (m := (x11_1 : Int).toNat) (c := co24) hC23 (by omega) hroom23
             obtain ⟨A23, hA23⟩ : ∃ A1, A1 = (if co24 = (x11_1 : Int).toNat then Ao24 else (Ao24 : Option Addr).map (·.add ((x11_1 : Int).toNat * 1))) := ⟨_, rfl⟩
             obtain ⟨c23, hc23⟩ : ∃ c1, c1 = co24 - (x11_1 : Int).toNat := ⟨_, rfl⟩
             have hy23 : y460.length = x9_2.length - (x11_1 : Int).toNat := (by rw [Ny460.out, List.length_drop] <;> omega)
             rw [show (x9_2).drop (x11_1 : Int).toNat = y460 from Ny460.out.symm] at hr23
             replace hr23 : Kd.C (Kd.int .u64) _ A23 y460.length y460 := (by rw [hA23]; exact hr23)
             rw [← hy23, ← hA23, ← hc23] at hcut23
             (try simp only [hl10_1, hl10_2] at hcut23)
             have HR463 := Aside0.mk hr23
             have HC463 := Aside0.mk (show y460.length ≤ c23 from by rw [hy23, hc23]; exact Nat.sub_le_sub_right hroom23 _)
             clear hr23 hC23 hroom23 hi023 hsz23 hc23
             have KY23 := Aside0.mk hy23
             have KA23 := Aside0.mk hA23
             clear hy23 hA23
             have KL23 := Aside0.mk (show (x11_1 : Int).toNat ≤ x9_2.length from by omega)
             replace q23 := eq_true q23
             go_wp2_with (first | ((with_reducible refine gate_callee (f := 52) rfl ?_); refine goesL_ (some 45) rfl rfl Try.func52 (by kernel_rfl) rfl #[.slice A23 y460.length c23, .slice Ao12 t449.length co12] rfl (by (try simp only [List.map_toArray, List.map_cons, List.map_nil]); first | done | rfl | (simp only [List.length_drop, List.length_take]; rfl)) ?_; (with_reducible refine (galoisref01_below.calls k2 _ _ y460 _ _ t449 true _ ?side1 ?side2 ?side3 ?side4 A21.out).mono ?_); (case side1 => repeat (first | exact (by repeat (first | (with_reducible exact HR463.out) | (with_reducible refine Kd.C_alloc ?_ _) | (with_reducible refine Kd.C_drewN ?_ _) | (with_reducible refine Kd.C_drew ?_) | exact HR463.out)) | (with_reducible refine Kd.C_alloc ?_ _) | (with_reducible refine Kd.C_drewN ?_ _) | (with_reducible refine Kd.C_drew ?_))); (case side2 => exact HC463.out); (case side3 => repeat (first | exact (Kd.R_reads' HO_7.out).2.2 | (with_reducible refine Kd.C_alloc ?_ _) | (with_reducible refine Kd.C_drewN ?_ _) | (with_reducible refine Kd.C_drew ?_))); (case side4 => exact (Kd.R_reads' HO_7.out).2.1); rintro e w25 ⟨rfl, hb⟩; refine ⟨_, rfl, ?_⟩; have n0_ := Aside0.mk (Kd.R_below (by (with_reducible repeat (first | apply Kd.R_alloc | apply Kd.R_drewN | apply Kd.R_drew)); exact HO_7.out) hb); have n1_ := Aside0.mk (Kd.R_below (by (with_reducible repeat (first | apply Kd.R_alloc | apply Kd.R_drewN | apply Kd.R_drew)); exact HO_9.out) hb); have n2_ := Aside0.mk (Kd.R_below (by (with_reducible repeat (first | apply Kd.R_alloc | apply Kd.R_drewN | apply Kd.R_drew)); exact HO_10.out) hb); have n3_ := Aside0.mk (Kd.C_below (by repeat (first | (with_reducible exact HR463.out) | (with_reducible refine Kd.C_alloc ?_ _) | (with_reducible refine Kd.C_drewN ?_ _) | (with_reducible refine Kd.C_drew ?_) | exact HR463.out)) hb); have n4_ := Aside0.mk (below_step (by repeat (first | (with_reducible first | exact HB.out | apply below_alloc | apply pw_below_drewN | apply below_drew1) | exact HB.out)) hb); clear HO_7; clear HO_9; clear HO_10; clear HR463; clear HB; have HO_7 := n0_; have HO_9 := n1_; have HO_10 := n2_; have HR463 := n3_; have HB := n4_; clear n0_ n1_ n2_ n3_ n4_; (try clear hb); (try clear hb2); (try clear hk); (try clear hi)))
             (try simp only [← hl10_1, ← hl10_2])
             go_roundg k2
             case measure => have := HK1.out; have := HK2.out; omega
             case rel => exact ⟨(x9_2), (x10_2), (wrap64 (x11_1 - 1)), (by first | rfl | (simp; done) | (simp [*]; done)), H', ⟨by have := HK1.out; have := HK2.out; omega⟩, ⟨by (try simp only [hl10_1]); (try simp only [hl10_2]); (with_reducible repeat (first | apply Kd.R_alloc | apply Kd.R_drewN | apply Kd.R_drew)); exact HO_7.out⟩, ⟨by (try simp only [hl10_1]); (try simp only [hl10_2]); (with_reducible repeat (first | apply Kd.R_alloc | apply Kd.R_drewN | apply Kd.R_drew)); exact HO_9.out⟩, ⟨by (try simp only [hl10_1]); (try simp only [hl10_2]); (with_reducible repeat (first | apply Kd.R_alloc | apply Kd.R_drewN | apply Kd.R_drew)); exact HO_10.out⟩, ⟨by repeat (first | (with_reducible first | exact HB.out | apply below_alloc | apply pw_below_drewN | apply below_drew1) | exact HB.out)⟩⟩
            ·replace c22 := Bool.eq_false_iff.mpr c22
             subst c22
             have H1 : (if 0 ≤ (wrap64 (x11_1 + (t449.length : Int))) then (if (wrap64 (x11_1 + (t449.length : Int))) < (x9_2.length : Int) then (if 0 ≤ (wrap64 ((wrap64 (x11_1 + (t449.length : Int))) - 1)) then (if (wrap64 ((wrap64 (x11_1 + (t449.length : Int))) - 1)) < (x9_2.length : Int) then (if 0 ≤ (wrap64 ((t449.length : Int) - 1)) then (if (wrap64 ((t449.length : Int) - 1)) < (t449.length : Int) then (if (IntKind.u64.wrap ((rd t449 (wrap64 ((t449.length : Int) - 1))) + 1)) = 0 then (none) else (if x11_1 < (x10_2.length : Int) then (galoisref01_DivMod.l2 k2 t449 (t449.length : Int) x9_2 (x10_2.set (x11_1 : Int).toNat (IntKind.u64.wrap ((rd x10_2 x11_1) + (mx 1 (IntKind.u64.wrap (Int.tdiv (IntKind.u64.wrap ((IntKind.u64.wrap ((rd x9_2 (wrap64 (x11_1 + (t449.length : Int)))) * 4294967296)) + (rd x9_2 (wrap64 ((wrap64 (x11_1 + (t449.length : Int))) - 1))))) (IntKind.u64.wrap ((rd t449 (wrap64 ((t449.length : Int) - 1))) + 1)))))))) x11_1 (mx 1 (IntKind.u64.wrap (Int.tdiv (IntKind.u64.wrap ((IntKind.u64.wrap ((rd x9_2 (wrap64 (x11_1 + (t449.length : Int)))) * 4294967296)) + (rd x9_2 (wrap64 ((wrap64 (x11_1 + (t449.length : Int))) - 1))))) (IntKind.u64.wrap ((rd t449 (wrap64 ((t449.length : Int) - 1))) + 1))))) 0 0) else (none))) else (none)) else (none)) else (none)) else (none)) else (none)) else (none)) = some (r1, r2) := by rw [if_neg (show ¬ (false = true) by decide)] at H; exact H
             clear H
             have H := H1
             clear H1
             obtain ⟨ji26, hji26⟩ : ∃ j_ : Int, (wrap64 (x11_1 + (t449.length : Int))) = j_ := ⟨_, rfl⟩
             replace H : (if 0 ≤ (ji26) then (if (ji26) < (x9_2.length : Int) then (if 0 ≤ (wrap64 ((ji26) - 1)) then (if (wrap64 ((ji26) - 1)) < (x9_2.length : Int) then (if 0 ≤ (wrap64 ((t449.length : Int) - 1)) then (if (wrap64 ((t449.length : Int) - 1)) < (t449.length : Int) then (if (IntKind.u64.wrap ((rd t449 (wrap64 ((t449.length : Int) - 1))) + 1)) = 0 then (none) else (if x11_1 < (x10_2.length : Int) then (galoisref01_DivMod.l2 k2 t449 (t449.length : Int) x9_2 (x10_2.set (x11_1 : Int).toNat (IntKind.u64.wrap ((rd x10_2 x11_1) + (mx 1 (IntKind.u64.wrap (Int.tdiv (IntKind.u64.wrap ((IntKind.u64.wrap ((rd x9_2 (ji26)) * 4294967296)) + (rd x9_2 (wrap64 ((ji26) - 1))))) (IntKind.u64.wrap ((rd t449 (wrap64 ((t449.length : Int) - 1))) + 1)))))))) x11_1 (mx 1 (IntKind.u64.wrap (Int.tdiv (IntKind.u64.wrap ((IntKind.u64.wrap ((rd x9_2 (ji26)) * 4294967296)) + (rd x9_2 (wrap64 ((ji26) - 1))))) (IntKind.u64.wrap ((rd t449 (wrap64 ((t449.length : Int) - 1))) + 1))))) 0 0) else (none))) else (none)) else (none)) else (none)) else (none)) else (none)) else (none)) = some (r1, r2) := by first | (rw [hji26] at H; exact H) | (simp only [hji26] at H ⊢; exact H)
             (try rw [hji26] at A21)
             have hji26w : (IntKind.i64.wrap (x11_1 + (t449.length : Int))) = ji26 := (i64_w _).trans hji26
             by_cases c27 : 0 ≤ (ji26)
             ·rw [if_pos c27] at H
              have c27b0 : decide (0 ≤ (ji26)) = true := decide_eq_true c27
              clear c27
              by_cases c28 : (ji26) < (x9_2.length : Int)
              ·rw [if_pos c28] at H
               have c28b0 : decide ((ji26) < (x9_2.length : Int)) = true := decide_eq_true c28
               (try (have c28b0y := c28b0; simp only [hl10_1, hl10_2] at c28b0y))
               clear c28
               obtain ⟨ji29, hji29⟩ : ∃ j_ : Int, (wrap64 ((ji26) - 1)) = j_ := ⟨_, rfl⟩
               replace H : (if 0 ≤ (ji29) then (if (ji29) < (x9_2.length : Int) then (if 0 ≤ (wrap64 ((t449.length : Int) - 1)) then (if (wrap64 ((t449.length : Int) - 1)) < (t449.length : Int) then (if (IntKind.u64.wrap ((rd t449 (wrap64 ((t449.length : Int) - 1))) + 1)) = 0 then (none) else (if x11_1 < (x10_2.length : Int) then (galoisref01_DivMod.l2 k2 t449 (t449.length : Int) x9_2 (x10_2.set (x11_1 : Int).toNat (IntKind.u64.wrap ((rd x10_2 x11_1) + (mx 1 (IntKind.u64.wrap (Int.tdiv (IntKind.u64.wrap ((IntKind.u64.wrap ((rd x9_2 (ji26)) * 4294967296)) + (rd x9_2 (ji29)))) (IntKind.u64.wrap ((rd t449 (wrap64 ((t449.length : Int) - 1))) + 1)))))))) x11_1 (mx 1 (IntKind.u64.wrap (Int.tdiv (IntKind.u64.wrap ((IntKind.u64.wrap ((rd x9_2 (ji26)) * 4294967296)) + (rd x9_2 (ji29)))) (IntKind.u64.wrap ((rd t449 (wrap64 ((t449.length : Int) - 1))) + 1))))) 0 0) else (none))) else (none)) else (none)) else (none)) else (none)) = some (r1, r2) := by first | (rw [hji29] at H; exact H) | (simp only [hji29] at H ⊢; exact H)
               (try rw [hji29] at A21)
               have hji29w : (IntKind.i64.wrap ((ji26) - 1)) = ji29 := (i64_w _).trans hji29
               by_cases c30 : 0 ≤ (ji29)
               ·rw [if_pos c30] at H
                have c30b0 : decide (0 ≤ (ji29)) = true := decide_eq_true c30
                clear c30
                by_cases c31 : (ji29) < (x9_2.length : Int)
                ·rw [if_pos c31] at H
                 have c31b0 : decide ((ji29) < (x9_2.length : Int)) = true := decide_eq_true c31
                 (try (have c31b0y := c31b0; simp only [hl10_1, hl10_2] at c31b0y))
                 clear c31
                 obtain ⟨ji32, hji32⟩ : ∃ j_ : Int, (wrap64 ((t449.length : Int) - 1)) = j_ := ⟨_, rfl⟩
                 replace H : (if 0 ≤ (ji32) then (if (ji32) < (t449.length : Int) then (if (IntKind.u64.wrap ((rd t449 (ji32)) + 1)) = 0 then (none) else (if x11_1 < (x10_2.length : Int) then (galoisref01_DivMod.l2 k2 t449 (t449.length : Int) x9_2 (x10_2.set (x11_1 : Int).toNat (IntKind.u64.wrap ((rd x10_2 x11_1) + (mx 1 (IntKind.u64.wrap (Int.tdiv (IntKind.u64.wrap ((IntKind.u64.wrap ((rd x9_2 (ji26)) * 4294967296)) + (rd x9_2 (ji29)))) (IntKind.u64.wrap ((rd t449 (ji32)) + 1)))))))) x11_1 (mx 1 (IntKind.u64.wrap (Int.tdiv (IntKind.u64.wrap ((IntKind.u64.wrap ((rd x9_2 (ji26)) * 4294967296)) + (rd x9_2 (ji29)))) (IntKind.u64.wrap ((rd t449 (ji32)) + 1))))) 0 0) else (none))) else (none)) else (none)) = some (r1, r2) := by first | (rw [hji32] at H; exact H) | (simp only [hji32] at H ⊢; exact H)
                 (try rw [hji32] at A21)
                 have hji32w : (IntKind.i64.wrap ((t449.length : Int) - 1)) = ji32 := (i64_w _).trans hji32
                 by_cases c33 : 0 ≤ (ji32)
                 ·rw [if_pos c33] at H
                  have c33b0 : decide (0 ≤ (ji32)) = true := decide_eq_true c33
                  clear c33
                  by_cases c34 : (ji32) < (t449.length : Int)
                  ·rw [if_pos c34] at H
                   have c34b0 : decide ((ji32) < (t449.length : Int)) = true := decide_eq_true c34
                   (try (have c34b0y := c34b0; simp only [hl10_1, hl10_2] at c34b0y))
                   clear c34
                   by_cases c35 : (IntKind.u64.wrap ((rd t449 (ji32)) + 1)) = 0
                   ·rw [if_pos c35] at H
                    exact absurd H (by simp)
                   ·rw [if_neg c35] at H
                    have c35b0 : ((IntKind.u64.wrap ((rd t449 (ji32)) + 1)) == 0) = false := beq_eq_false_iff_ne.mpr c35
                    have c35b1 : ((IntKind.u64.wrap ((rd t449 (ji32)) + 1)) != 0) = true := bne_iff_ne.mpr c35
                    obtain ⟨ji36, hji36⟩ : ∃ j_ : Int, (mx 1 (IntKind.u64.wrap (Int.tdiv (IntKind.u64.wrap ((IntKind.u64.wrap ((rd x9_2 (ji26)) * 4294967296)) + (rd x9_2 (ji29)))) (IntKind.u64.wrap ((rd t449 (ji32)) + 1))))) = j_ := ⟨_, rfl⟩
                    replace H : (if x11_1 < (x10_2.length : Int) then (galoisref01_DivMod.l2 k2 t449 (t449.length : Int) x9_2 (x10_2.set (x11_1 : Int).toNat (IntKind.u64.wrap ((rd x10_2 x11_1) + (ji36)))) x11_1 ji36 0 0) else (none)) = some (r1, r2) := by first | (rw [hji36] at H; exact H) | (simp only [hji36] at H ⊢; exact H)
                    (try rw [hji36] at A21)
                    have hji36_ : (if 1 < (IntKind.u64.wrap (Int.tdiv (IntKind.u64.wrap ((IntKind.u64.wrap ((rd x9_2 (ji26)) * 4294967296)) + (rd x9_2 (ji29)))) (IntKind.u64.wrap ((rd t449 (ji32)) + 1)))) then (IntKind.u64.wrap (Int.tdiv (IntKind.u64.wrap ((IntKind.u64.wrap ((rd x9_2 (ji26)) * 4294967296)) + (rd x9_2 (ji29)))) (IntKind.u64.wrap ((rd t449 (ji32)) + 1)))) else 1) = ji36 := hji36
                    by_cases c37 : x11_1 < (x10_2.length : Int)
                    ·rw [if_pos c37] at H
                     have c37b0 : decide (x11_1 < (x10_2.length : Int)) = true := decide_eq_true c37
                     (try (have c37b0y := c37b0; simp only [hl10_1, hl10_2] at c37b0y))
                     clear c37
                     obtain ⟨y469, hy469⟩ : ∃ y_ : List Int, y_ = (x10_2.set (x11_1 : Int).toNat (IntKind.u64.wrap ((rd x10_2 x11_1) + (ji36)))) := ⟨_, rfl⟩
                     replace H : (galoisref01_DivMod.l2 k2 t449 (t449.length : Int) x9_2 y469 x11_1 ji36 0 0) = some (r1, r2) := by first | (rw [hy469]; with_reducible exact H) | (have H2_ := (Option.bind_some _ _).symm.trans H; rw [hy469]; with_reducible exact H2_) | (have H2_ := (Option.bind_some _ _).symm.trans H; with_reducible exact H2_) | with_reducible exact H | (rw [hy469]; exact H) | exact H
                     have Ny469 := Aside0.mk hy469
                     clear hy469
                     have H' := Aside0.mk H
                     clear H
                     obtain ⟨Ao40, co40, eo40⟩ := Kd.R_slice HO_9.out
                     subst eo40
                     have q39 : (x11_1 : Int) ≤ ((x9_2.length : Int) : Int) := of_decide_eq_true (by first | (with_reducible assumption) | assumption)
                     obtain ⟨i039, hi039, _, hsz39, _⟩ := info_parts info49
                     have hroom39 : x9_2.length ≤ co40 := (Kd.R_reads' HO_9.out).2.1
                     have hC39 : Kd.C (Kd.int .u64) _ Ao40 x9_2.length x9_2 := (Kd.R_reads' HO_9.out).2.2
                     have q039 : (0 : Int) ≤ (x11_1 : Int) := of_decide_eq_true (by first | (with_reducible assumption) | assumption)
                     have hcut39 := cut_from (P := Try.prog) 68 49 .i64 Try.underlying68 hi039 1 hsz39 Ao40 x9_2.length co40 x11_1 q039 q39
                     have hr39 := Kd.C_drop (m := (x11_1 : Int).toNat) (c := co40) hC39 (by omega) hroom39
                     obtain ⟨A39, hA39⟩ : ∃ A1, A1 = (if co40 = (x11_1 : Int).toNat then Ao40 else (Ao40 : Option Addr).map (·.add ((x11_1 : Int).toNat * 1))) := ⟨_, rfl⟩
                     obtain ⟨c39, hc39⟩ : ∃ c1, c1 = co40 - (x11_1 : Int).toNat := ⟨_, rfl⟩
                     have hy39 : y460.length = x9_2.length - (x11_1 : Int).toNat := (by rw [Ny460.out, List.length_drop] <;> omega)
                     rw [show (x9_2).drop (x11_1 : Int).toNat = y460 from Ny460.out.symm] at hr39
                     replace hr39 : Kd.C (Kd.int .u64) _ A39 y460.length y460 := (by rw [hA39]; exact hr39)
                     rw [← hy39, ← hA39, ← hc39] at hcut39
                     (try simp only [hl10_1, hl10_2] at hcut39)
                     have HR463 := Aside0.mk hr39
                     have HC463 := Aside0.mk (show y460.length ≤ c39 from by rw [hy39, hc39]; exact Nat.sub_le_sub_right hroom39 _)
                     clear hr39 hC39 hroom39 hi039 hsz39 hc39
                     have KY39 := Aside0.mk hy39
                     have KA39 := Aside0.mk hA39
                     clear hy39 hA39
                     have KL39 := Aside0.mk (show (x11_1 : Int).toNat ≤ x9_2.length from by omega)
                     replace q39 := eq_true q39
                     try go_wp2_with (first | ((with_reducible refine gate_callee (f := 52) rfl ?_); refine goesL_ (some 45) rfl rfl Try.func52 (by kernel_rfl) rfl #[.slice A39 y460.length c39, .slice Ao12 t449.length co12] rfl (by (try simp only [List.map_toArray, List.map_cons, List.map_nil]); first | done | rfl | (simp only [List.length_drop, List.length_take]; rfl)) ?_; (with_reducible refine (galoisref01_below.calls k2 _ _ y460 _ _ t449 false _ ?side1 ?side2 ?side3 ?side4 A21.out).mono ?_); (case side1 => repeat (first | exact (by repeat (first | (with_reducible exact HR463.out) | (with_reducible refine Kd.C_alloc ?_ _) | (with_reducible refine Kd.C_drewN ?_ _) | (with_reducible refine Kd.C_drew ?_) | exact HR463.out)) | (with_reducible refine Kd.C_alloc ?_ _) | (with_reducible refine Kd.C_drewN ?_ _) | (with_reducible refine Kd.C_drew ?_))); (case side2 => exact HC463.out); (case side3 => repeat (first | exact (Kd.R_reads' HO_7.out).2.2 | (with_reducible refine Kd.C_alloc ?_ _) | (with_reducible refine Kd.C_drewN ?_ _) | (with_reducible refine Kd.C_drew ?_))); (case side4 => exact (Kd.R_reads' HO_7.out).2.1); rintro e w41 ⟨rfl, hb⟩; refine ⟨_, rfl, ?_⟩; have n0_ := Aside0.mk (Kd.R_below (by (with_reducible repeat (first | apply Kd.R_alloc | apply Kd.R_drewN | apply Kd.R_drew)); exact HO_7.out) hb); have n1_ := Aside0.mk (Kd.R_below (by (with_reducible repeat (first | apply Kd.R_alloc | apply Kd.R_drewN | apply Kd.R_drew)); exact HO_9.out) hb); have n2_ := Aside0.mk (Kd.R_below (by (with_reducible repeat (first | apply Kd.R_alloc | apply Kd.R_drewN | apply Kd.R_drew)); exact HO_10.out) hb); have n3_ := Aside0.mk (Kd.C_below (by repeat (first | (with_reducible exact HR463.out) | (with_reducible refine Kd.C_alloc ?_ _) | (with_reducible refine Kd.C_drewN ?_ _) | (with_reducible refine Kd.C_drew ?_) | exact HR463.out)) hb); have n4_ := Aside0.mk (below_step (by repeat (first | (with_reducible first | exact HB.out | apply below_alloc | apply pw_below_drewN | apply below_drew1) | exact HB.out)) hb); clear HO_7; clear HO_9; clear HO_10; clear HR463; clear HB; have HO_7 := n0_; have HO_9 := n1_; have HO_10 := n2_; have HR463 := n3_; have HB := n4_; clear n0_ n1_ n2_ n3_ n4_; (try clear hb); (try clear hb2); (try clear hk); (try clear hi)))
                     have n0_ := Aside0.mk (Kd.R_drew HO_7.out)
                     have n1_ := Aside0.mk (Kd.R_drew HO_9.out)
                     have n2_ := Aside0.mk (Kd.R_drew HO_10.out)
                     have n3_ := Aside0.mk (Kd.C_drew HR463.out)
                     have n4_ := Aside0.mk (below_drew1 HB.out)
                     clear HO_7
                     clear HO_9
                     clear HO_10
                     clear HR463
                     clear HB
                     have HO_7 := n0_
                     have HO_9 := n1_
                     have HO_10 := n2_
                     have HR463 := n3_
                     have HB := n4_
                     clear n0_ n1_ n2_ n3_ n4_
                     have p465 : 0 ≤ ((ji26) : Int) := of_decide_eq_true (by first | (with_reducible assumption) | assumption)
                     have q465 : (ji26) < (x9_2.length : Int) := of_decide_eq_true (by first | (with_reducible assumption) | assumption)
                     obtain ⟨ad465, e465, hx465_0⟩ := Kd.at_int (Kd.R_reads' HO_9.out).2.2 (ji26) p465 q465
                     cases e465
                     replace p465 := eq_true p465
                     replace q465 := eq_true q465
                     have p466 : 0 ≤ ((ji29) : Int) := of_decide_eq_true (by first | (with_reducible assumption) | assumption)
                     have q466 : (ji29) < (x9_2.length : Int) := of_decide_eq_true (by first | (with_reducible assumption) | assumption)
                     obtain ⟨ad466, e466, hx466_0⟩ := Kd.at_int (Kd.R_reads' HO_9.out).2.2 (ji29) p466 q466
                     obtain rfl : ad465 = ad466 := (by injection e466)
                     replace p466 := eq_true p466
                     replace q466 := eq_true q466
                     have p467 : 0 ≤ ((ji32) : Int) := of_decide_eq_true (by first | (with_reducible assumption) | assumption)
                     have q467 : (ji32) < (t449.length : Int) := of_decide_eq_true (by first | (with_reducible assumption) | assumption)
                     obtain ⟨ad467, e467, hx467_0⟩ := Kd.at_int (Kd.R_reads' HO_7.out).2.2 (ji32) p467 q467
                     cases e467
                     replace p467 := eq_true p467
                     replace q467 := eq_true q467
                     refine start_ (n := 24) (S := fun w' => w'.cell? (ad465.add ((ji26)).toNat) = some (.int .u64 (rd x9_2 (ji26))) ∧ w'.cell? (ad465.add ((ji29)).toNat) = some (.int .u64 (rd x9_2 (ji29))) ∧ w'.cell? (ad467.add ((ji32)).toNat) = some (.int .u64 (rd t449 (ji32)))) (ds := []) #[false, false, false, false, false, false, false, false, false, false, false, false, false, false, false, false, false, false, false, false, false, false, false, false] (by kernel_rfl) rfl rfl ⟨hx465_0, hx466_0, hx467_0⟩ (fun hHeld => ?_); refine with_tabW galoisref01_DivMod.tab11 galoisref01_DivMod.bits11 (fun HT_ HW_ => ?_)
                     generalize w41.drew = w42 at HO_7 HO_9 HO_10 HR463 HB hx465_0 hx466_0 hx467_0 hHeld ⊢
                     refine pure_ (i := 0) (N := some 47) (v := ?_) (a' := ?_) #[true, false, false, false, false, false, false, false, false, false, false, false, false, false, false, false, false, false, false, false, false, false, false, false] rfl rfl (any_of HT_.out (by kernel_rfl)) (fun _ _ _ h => h) (Or.inl ⟨by rfl, ?_⟩) ?_ ?_
                     rotate_left
                     ·intro w'
                      go_simp
                      with_reducible rfl
                     rotate_left
                     ·simp only [Act.put, List.setIfInBounds_toArray, List.set_cons_zero, List.set_cons_succ, i64_w, i32_w]
                      rfl
                     refine pure_ (i := 1) (N := some 48) (v := ?_) (a' := ?_) #[true, true, false, false, false, false, false, false, false, false, false, false, false, false, false, false, false, false, false, false, false, false, false, false] rfl rfl (any_of HT_.out (by kernel_rfl)) (fun _ _ _ h => h) (Or.inl ⟨by rfl, ?_⟩) ?_ ?_
                     rotate_left
                     ·intro w'
                      go_simp
                      with_reducible rfl
                     rotate_left
                     ·simp only [Act.put, List.setIfInBounds_toArray, List.set_cons_zero, List.set_cons_succ, i64_w, i32_w]
                      rfl
                     refine pure_ (i := 2) (N := some 49) (v := ?_) (a' := ?_) #[true, true, true, false, false, false, false, false, false, false, false, false, false, false, false, false, false, false, false, false, false, false, false, false] rfl rfl (any_of HT_.out (by kernel_rfl)) (fun _ _ _ h => h) (Or.inl ⟨by rfl, ?_⟩) ?_ ?_
                     rotate_left
                     ·intro w'
                      go_simp
                      with_reducible rfl
                     rotate_left
                     ·simp only [Act.put, List.setIfInBounds_toArray, List.set_cons_zero, List.set_cons_succ, i64_w, i32_w]
                      rfl
                     refine pure_ (i := 3) (N := some 50) (v := ?_) (a' := ?_) #[true, true, true, true, false, false, false, false, false, false, false, false, false, false, false, false, false, false, false, false, false, false, false, false] rfl rfl (any_of HT_.out (by kernel_rfl)) (fun _ _ _ h => h) (Or.inl ⟨by rfl, ?_⟩) ?_ ?_
                     rotate_left
                     ·intro w'
                      go_simp
                      with_reducible rfl
                     rotate_left
                     ·simp only [Act.put, List.setIfInBounds_toArray, List.set_cons_zero, List.set_cons_succ, i64_w, i32_w]
                      rfl
                     refine pure_ (i := 4) (N := some 51) (v := ?_) (a' := ?_) #[true, true, true, true, true, false, false, false, false, false, false, false, false, false, false, false, false, false, false, false, false, false, false, false] rfl rfl (any_of HT_.out (by kernel_rfl)) (fun _ _ _ h => h) (Or.inl ⟨by rfl, ?_⟩) ?_ ?_
                     rotate_left
                     ·intro w'
                      go_simp
                      with_reducible rfl
                     rotate_left
                     ·simp only [Act.put, List.setIfInBounds_toArray, List.set_cons_zero, List.set_cons_succ, i64_w, i32_w]
                      rfl
                     refine pure_ (i := 7) (N := some 54) (v := ?_) (a' := ?_) #[true, true, true, true, true, false, false, true, false, false, false, false, false, false, false, false, false, false, false, false, false, false, false, false] rfl rfl (any_of HT_.out (by kernel_rfl)) (fun _ _ _ h => h) (Or.inl ⟨by rfl, ?_⟩) ?_ ?_
                     rotate_left
                     ·intro w'
                      go_simp
                      with_reducible rfl
                     rotate_left
                     ·simp only [Act.put, List.setIfInBounds_toArray, List.set_cons_zero, List.set_cons_succ, i64_w, i32_w]
                      rfl
                     refine pure_ (i := 8) (N := some 55) (v := ?_) (a' := ?_) #[true, true, true, true, true, false, false, true, true, false, false, false, false, false, false, false, false, false, false, false, false, false, false, false] rfl rfl (any_of HT_.out (by kernel_rfl)) (fun _ _ _ h => h) (Or.inl ⟨by rfl, ?_⟩) ?_ ?_
                     rotate_left
                     ·intro w'
                      go_simp
                      with_reducible rfl
                     rotate_left
                     ·simp only [Act.put, List.setIfInBounds_toArray, List.set_cons_zero, List.set_cons_succ, i64_w, i32_w]
                      rfl
                     refine pure_ (i := 9) (N := some 56) (v := ?_) (a' := ?_) #[true, true, true, true, true, false, false, true, true, true, false, false, false, false, false, false, false, false, false, false, false, false, false, false] rfl rfl (any_of HT_.out (by kernel_rfl)) (fun _ _ _ h => h) (Or.inl ⟨by rfl, ?_⟩) ?_ ?_
                     rotate_left
                     ·intro w'
                      go_simp
                      with_reducible rfl
                     rotate_left
                     ·simp only [Act.put, List.setIfInBounds_toArray, List.set_cons_zero, List.set_cons_succ, i64_w, i32_w]
                      rfl
                     refine pure_ (i := 10) (N := some 57) (v := ?_) (a' := ?_) #[true, true, true, true, true, false, false, true, true, true, true, false, false, false, false, false, false, false, false, false, false, false, false, false] rfl rfl (any_of HT_.out (by kernel_rfl)) (fun _ _ _ h => h) (Or.inl ⟨by rfl, ?_⟩) ?_ ?_
                     rotate_left
                     ·intro w'
                      go_simp
                      with_reducible rfl
                     rotate_left
                     ·simp only [Act.put, List.setIfInBounds_toArray, List.set_cons_zero, List.set_cons_succ, i64_w, i32_w]
                      rfl
                     refine pure_ (i := 11) (N := some 58) (v := ?_) (a' := ?_) #[true, true, true, true, true, false, false, true, true, true, true, true, false, false, false, false, false, false, false, false, false, false, false, false] rfl rfl (any_of HT_.out (by kernel_rfl)) (fun _ _ _ h => h) (Or.inl ⟨by rfl, ?_⟩) ?_ ?_
                     rotate_left
                     ·intro w'
                      go_simp
                      with_reducible rfl
                     rotate_left
                     ·simp only [Act.put, List.setIfInBounds_toArray, List.set_cons_zero, List.set_cons_succ, i64_w, i32_w]
                      rfl
                     refine pure_ (i := 12) (N := some 59) (v := ?_) (a' := ?_) #[true, true, true, true, true, false, false, true, true, true, true, true, true, false, false, false, false, false, false, false, false, false, false, false] rfl rfl (any_of HT_.out (by kernel_rfl)) (fun _ _ _ h => h) (Or.inl ⟨by rfl, ?_⟩) ?_ ?_
                     rotate_left
                     ·intro w'
                      go_simp
                      with_reducible rfl
                     rotate_left
                     ·simp only [Act.put, List.setIfInBounds_toArray, List.set_cons_zero, List.set_cons_succ, i64_w, i32_w]
                      rfl
                     refine pure_ (i := 15) (N := some 62) (v := ?_) (a' := ?_) #[true, true, true, true, true, false, false, true, true, true, true, true, true, false, false, true, false, false, false, false, false, false, false, false] rfl rfl (any_of HT_.out (by kernel_rfl)) (fun _ _ _ h => h) (Or.inl ⟨by rfl, ?_⟩) ?_ ?_
                     rotate_left
                     ·intro w'
                      go_simp
                      with_reducible rfl
                     rotate_left
                     ·simp only [Act.put, List.setIfInBounds_toArray, List.set_cons_zero, List.set_cons_succ, i64_w, i32_w]
                      rfl
                     refine pure_ (i := 16) (N := some 63) (v := ?_) (a' := ?_) #[true, true, true, true, true, false, false, true, true, true, true, true, true, false, false, true, true, false, false, false, false, false, false, false] rfl rfl (any_of HT_.out (by kernel_rfl)) (fun _ _ _ h => h) (Or.inl ⟨by rfl, ?_⟩) ?_ ?_
                     rotate_left
                     ·intro w'
                      go_simp
                      with_reducible rfl
                     rotate_left
                     ·simp only [Act.put, List.setIfInBounds_toArray, List.set_cons_zero, List.set_cons_succ, i64_w, i32_w]
                      rfl
                     refine pure_ (i := 17) (N := some 64) (v := ?_) (a' := ?_) #[true, true, true, true, true, false, false, true, true, true, true, true, true, false, false, true, true, true, false, false, false, false, false, false] rfl rfl (any_of HT_.out (by kernel_rfl)) (fun _ _ _ h => h) (Or.inl ⟨by rfl, ?_⟩) ?_ ?_
                     rotate_left
                     ·intro w'
                      go_simp
                      with_reducible rfl
                     rotate_left
                     ·simp only [Act.put, List.setIfInBounds_toArray, List.set_cons_zero, List.set_cons_succ, i64_w, i32_w]
                      rfl
                     refine pure_ (i := 18) (N := some 65) (v := ?_) (a' := ?_) #[true, true, true, true, true, false, false, true, true, true, true, true, true, false, false, true, true, true, true, false, false, false, false, false] rfl rfl (any_of HT_.out (by kernel_rfl)) (fun _ _ _ h => h) (Or.inl ⟨by rfl, ?_⟩) ?_ ?_
                     rotate_left
                     ·intro w'
                      go_simp
                      with_reducible rfl
                     rotate_left
                     ·simp only [Act.put, List.setIfInBounds_toArray, List.set_cons_zero, List.set_cons_succ, i64_w, i32_w]
                      rfl
                     refine take_ (i := 5) (N := some 52) (v := ?_) (a' := ?_) #[true, true, true, true, true, true, false, true, true, true, true, true, true, false, false, true, true, true, true, false, false, false, false, false] rfl rfl (take_ofW HT_.out HW_.out (by kernel_rfl)) (fun _ _ _ h => h) (Or.inl ⟨by rfl, ?_⟩) hHeld ?_ ?_
                     rotate_left
                     ·rintro w' ⟨s0, s1, s2⟩
                      (try simp only [Int.toNat_natCast] at s0 s1 s2)
                      go_simp
                      with_reducible rfl
                     rotate_left
                     ·simp only [Act.put, List.setIfInBounds_toArray, List.set_cons_zero, List.set_cons_succ, i64_w, i32_w]
                      rfl
                     refine pure_ (i := 6) (N := some 53) (v := ?_) (a' := ?_) #[true, true, true, true, true, true, true, true, true, true, true, true, true, false, false, true, true, true, true, false, false, false, false, false] rfl rfl (any_of HT_.out (by kernel_rfl)) (fun _ _ _ h => h) (Or.inl ⟨by rfl, ?_⟩) ?_ ?_
                     rotate_left
                     ·intro w'
                      go_simp
                      with_reducible rfl
                     rotate_left
                     ·simp only [Act.put, List.setIfInBounds_toArray, List.set_cons_zero, List.set_cons_succ, i64_w, i32_w]
                      rfl
                     refine take_ (i := 13) (N := some 60) (v := ?_) (a' := ?_) #[true, true, true, true, true, true, true, true, true, true, true, true, true, true, false, true, true, true, true, false, false, false, false, false] rfl rfl (take_ofW HT_.out HW_.out (by kernel_rfl)) (fun _ _ _ h => h) (Or.inl ⟨by rfl, ?_⟩) hHeld ?_ ?_
                     rotate_left
                     ·rintro w' ⟨s0, s1, s2⟩
                      (try simp only [Int.toNat_natCast] at s0 s1 s2)
                      go_simp
                      with_reducible rfl
                     rotate_left
                     ·simp only [Act.put, List.setIfInBounds_toArray, List.set_cons_zero, List.set_cons_succ, i64_w, i32_w]
                      rfl
                     refine pure_ (i := 14) (N := some 61) (v := ?_) (a' := ?_) #[true, true, true, true, true, true, true, true, true, true, true, true, true, true, true, true, true, true, true, false, false, false, false, false] rfl rfl (any_of HT_.out (by kernel_rfl)) (fun _ _ _ h => h) (Or.inl ⟨by rfl, ?_⟩) ?_ ?_
                     rotate_left
                     ·intro w'
                      go_simp
                      with_reducible rfl
                     rotate_left
                     ·simp only [Act.put, List.setIfInBounds_toArray, List.set_cons_zero, List.set_cons_succ, i64_w, i32_w]
                      rfl
                     refine take_ (i := 19) (N := some 66) (v := ?_) (a' := ?_) #[true, true, true, true, true, true, true, true, true, true, true, true, true, true, true, true, true, true, true, true, false, false, false, false] rfl rfl (take_ofW HT_.out HW_.out (by kernel_rfl)) (fun _ _ _ h => h) (Or.inl ⟨by rfl, ?_⟩) hHeld ?_ ?_
                     rotate_left
                     ·rintro w' ⟨s0, s1, s2⟩
                      (try simp only [Int.toNat_natCast] at s0 s1 s2)
                      go_simp
                      with_reducible rfl
                     rotate_left
                     ·simp only [Act.put, List.setIfInBounds_toArray, List.set_cons_zero, List.set_cons_succ, i64_w, i32_w]
                      rfl
                     refine pure_ (i := 20) (N := some 67) (v := ?_) (a' := ?_) #[true, true, true, true, true, true, true, true, true, true, true, true, true, true, true, true, true, true, true, true, true, false, false, false] rfl rfl (any_of HT_.out (by kernel_rfl)) (fun _ _ _ h => h) (Or.inl ⟨by rfl, ?_⟩) ?_ ?_
                     rotate_left
                     ·intro w'
                      go_simp
                      with_reducible rfl
                     rotate_left
                     ·simp only [Act.put, List.setIfInBounds_toArray, List.set_cons_zero, List.set_cons_succ, i64_w, i32_w]
                      rfl
                     refine pure_ (i := 21) (N := some 68) (v := ?_) (a' := ?_) #[true, true, true, true, true, true, true, true, true, true, true, true, true, true, true, true, true, true, true, true, true, true, false, false] rfl rfl (any_of HT_.out (by kernel_rfl)) (fun _ _ _ h => h) (Or.inl ⟨by rfl, ?_⟩) ?_ ?_
                     rotate_left
                     ·intro w'
                      go_simp
                      with_reducible rfl
                     rotate_left
                     ·simp only [Act.put, List.setIfInBounds_toArray, List.set_cons_zero, List.set_cons_succ, i64_w, i32_w]
                      rfl
                     refine pure_ (i := 22) (N := some 69) (v := ?_) (a' := ?_) #[true, true, true, true, true, true, true, true, true, true, true, true, true, true, true, true, true, true, true, true, true, true, true, false] rfl rfl (any_of HT_.out (by kernel_rfl)) (fun _ _ _ h => h) (Or.inl ⟨by rfl, ?_⟩) ?_ ?_
                     rotate_left
                     ·intro w'
                      go_simp
                      with_reducible rfl
                     rotate_left
                     ·simp only [Act.put, List.setIfInBounds_toArray, List.set_cons_zero, List.set_cons_succ, i64_w, i32_w]
                      rfl
                     refine pure_ (i := 23) (N := some 12) (v := ?_) (a' := ?_) #[true, true, true, true, true, true, true, true, true, true, true, true, true, true, true, true, true, true, true, true, true, true, true, true] rfl rfl (any_of HT_.out (by kernel_rfl)) (fun _ _ _ h => h) (Or.inl ⟨by rfl, ?_⟩) ?_ ?_
                     rotate_left
                     ·intro w'
                      go_simp
                      with_reducible rfl
                     rotate_left
                     ·simp only [Act.put, List.setIfInBounds_toArray, List.set_cons_zero, List.set_cons_succ, i64_w, i32_w]
                      rfl
                     refine done_ (done_of HT_.out (by kernel_rfl)) ?_
                     have p468 : 0 ≤ (x11_1 : Int) := of_decide_eq_true (by first | (with_reducible assumption) | assumption)
                     have q468 : x11_1 < (x10_2.length : Int) := of_decide_eq_true (by first | (with_reducible assumption) | assumption)
                     obtain ⟨ad468, e468, hx468_0⟩ := Kd.at_int (Kd.R_reads' HO_10.out).2.2 x11_1 p468 q468
                     cases e468
                     replace p468 := eq_true p468
                     replace q468 := eq_true q468
                     have p38 : 0 ≤ (x11_1 : Int) := of_decide_eq_true (by first | (with_reducible assumption) | assumption)
                     have q38 : (x11_1 : Int) < ((x10_2.length : Int) : Int) := of_decide_eq_true (by first | (with_reducible assumption) | assumption)
                     obtain ⟨go38, co38, eo38, gb38, gl38, cl38, HG38⟩ := Kd.R_form HO_10.out (by omega)
                     (first | cases eo38 | (injection eo38 with ea_ en_ ec_; (first | subst ea_ | (injection ea_ with ea_; subst ea_)); subst ec_; clear en_))
                     have GB38 := Aside0.mk gb38
                     have GG38 := Aside0.mk HG38
                     clear gb38 gl38 HG38
                     (first | simp only [add_plain] at hx468_0 | skip)
                     obtain ⟨hx38_0, hf38_0⟩ := Kd.R_celln 0 HO_10.out (x11_1 : Int) p38 q38; (try simp only [Int.toNat_natCast] at hx38_0 hf38_0)
                     replace p38 := eq_true p38
                     replace q38 := eq_true q38
                     obtain ⟨hy43_, hz43_⟩ := Kd.R_celln 0 HO_10.out (x11_1 : Int) (of_decide_eq_true (by first | (with_reducible assumption) | assumption)) (of_decide_eq_true (by first | (with_reducible assumption) | assumption)); (try simp only [Int.toNat_natCast] at hy43_ hz43_)
                     have HP43 := Kd.R_putg HO_10.out (x11_1 : Int) (IntKind.u64.wrap ((rd x10_2 x11_1) + (ji36)))
                     try go_wp2_with (first | ((with_reducible refine gate_store (t := 49) (p := 78) rfl ?_); refine store_event (t := 49) (p := 78) (v := ?vo_w44) (w1 := (w42.setCell ⟨go38, (x11_1 : Int).toNat, none⟩ (.int .u64 (IntKind.u64.wrap ((rd x10_2 x11_1) + (ji36)))))) ?hg ?ho ?hn ?hr ?_; (case ho => rfl); (case hg => rfl); (case hn => rfl); (case hr => first | (go_simp; done) | (go_simp; rfl)); intro w44 hw; have hg : w42.grownBy w44 (some go38) := (by rw [hw]; exact HP43.2); have hp_ : Kd.R (Kd.int .u64) 49 w44 w.heap.size (fun k_ => some k_ ≠ (.slice (some ad467) t449.length co12 : Value).ownBlock ∧ some k_ ≠ (.slice (some ad465) x9_2.length co40 : Value).ownBlock) (.slice (some ⟨go38, 0, none⟩) x10_2.length co17) y469 := (by rw [hw, Ny469.out]; exact HP43.1); clear HP43; have n0_ := Aside0.mk (Kd.R_after (v := (.slice (some ⟨go38, 0, none⟩) x10_2.length co17)) (v1 := (.slice (some ⟨go38, 0, none⟩) x10_2.length co17)) (ok := (fun k_ => some k_ ≠ (.slice (some ad465) x9_2.length co40 : Value).ownBlock)) (by (with_reducible repeat (first | apply Kd.R_alloc | apply Kd.R_drewN | apply Kd.R_drew)); exact HO_7.out) hg (.inl rfl)); have n1_ := Aside0.mk (Kd.R_after (v := (.slice (some ⟨go38, 0, none⟩) x10_2.length co17)) (v1 := (.slice (some ⟨go38, 0, none⟩) x10_2.length co17)) (ok := (fun k_ => some k_ ≠ (.slice (some ad467) t449.length co12 : Value).ownBlock)) (by (with_reducible repeat (first | apply Kd.R_alloc | apply Kd.R_drewN | apply Kd.R_drew)); exact HO_9.out) hg (.inl rfl)); have n2_ := Aside0.mk (hp_); have n3_ := Aside0.mk ((by rw [hw]; exact below_set (HB.out) GB38.out : Below w.heap.size w w44)); have n4_ := Aside0.mk ((show Kd.C (Kd.int .u64) w44 A39 y460.length y460 from by rw [Ny460.out, KA39.out]; exact Kd.C_drop (m := (x11_1 : Int).toNat) (c := co40) ((Kd.R_reads' (Kd.R_after (v := (.slice (some ⟨go38, 0, none⟩) x10_2.length co17)) (v1 := (.slice (some ⟨go38, 0, none⟩) x10_2.length co17)) (ok := (fun k_ => some k_ ≠ (.slice (some ad467) t449.length co12 : Value).ownBlock)) (by (with_reducible repeat (first | apply Kd.R_alloc | apply Kd.R_drewN | apply Kd.R_drew)); exact HO_9.out) hg (.inl rfl))).2.2) KL39.out ((Kd.R_reads' (Kd.R_after (v := (.slice (some ⟨go38, 0, none⟩) x10_2.length co17)) (v1 := (.slice (some ⟨go38, 0, none⟩) x10_2.length co17)) (ok := (fun k_ => some k_ ≠ (.slice (some ad467) t449.length co12 : Value).ownBlock)) (by (with_reducible repeat (first | apply Kd.R_alloc | apply Kd.R_drewN | apply Kd.R_drew)); exact HO_9.out) hg (.inl rfl))).2.1))); clear HO_7; clear HO_9; clear HO_10; clear HB; clear HR463; have HO_7 := n0_; have HO_9 := n1_; have HO_10 := n2_; have HB := n3_; have HR463 := n4_; clear n0_ n1_ n2_ n3_ n4_; clear hg hw hp_))
                     (try generalize Value.pointer (some (Addr.add ad465 ji26.toNat)) = pt1_)
                     (try generalize Value.pointer (some (Addr.add ad465 ji29.toNat)) = pt2_)
                     go_loopg [13, 14] k2 (fun kq v13 v14 w' => ∃ (x9_3 : List Int) (x13_3 : Int) (x14_3 : Int), v13 = .int .u64 x13_3 ∧ v14 = .int .i64 x14_3 ∧ Aside0 (galoisref01_DivMod.l2 kq t449 (t449.length : Int) x9_3 y469 x11_1 ji36 x13_3 x14_3 = some (r1, r2)) ∧ Aside0 (kq ≤ k2) ∧ Aside0 (Kd.R (Kd.int .u64) 49 w' w.heap.size (fun k_ => some k_ ≠ ((.slice (some ad465) x9_2.length co40) : Value).ownBlock ∧ some k_ ≠ ((.slice (some ⟨go38, 0, none⟩) x10_2.length co17) : Value).ownBlock) (.slice (some ad467) t449.length co12) t449) ∧ Aside0 (Kd.R (Kd.int .u64) 49 w' w.heap.size (fun k_ => some k_ ≠ ((.slice (some ad467) t449.length co12) : Value).ownBlock ∧ some k_ ≠ ((.slice (some ⟨go38, 0, none⟩) x10_2.length co17) : Value).ownBlock) (.slice (some ad465) x9_2.length co40) x9_3) ∧ Aside0 (Kd.R (Kd.int .u64) 49 w' w.heap.size (fun k_ => some k_ ≠ ((.slice (some ad467) t449.length co12) : Value).ownBlock ∧ some k_ ≠ ((.slice (some ad465) x9_2.length co40) : Value).ownBlock) (.slice (some ⟨go38, 0, none⟩) x10_2.length co17) y469) ∧ Aside0 (Below w.heap.size w w'))
                     case atStart => exact ⟨(x9_2), (0), (0), (by first | rfl | (simp; done) | (simp [*]; done)), (by first | rfl | (simp; done) | (simp [*]; done)), H', ⟨Nat.le_refl _⟩, ⟨by (try simp only [hl10_1]); (try simp only [hl10_2]); (with_reducible repeat (first | apply Kd.R_alloc | apply Kd.R_drewN | apply Kd.R_drew)); exact HO_7.out⟩, ⟨by (try simp only [hl10_1]); (try simp only [hl10_2]); (with_reducible repeat (first | apply Kd.R_alloc | apply Kd.R_drewN | apply Kd.R_drew)); exact HO_9.out⟩, ⟨by (try simp only [hl10_1]); (try simp only [hl10_2]); (with_reducible repeat (first | apply Kd.R_alloc | apply Kd.R_drewN | apply Kd.R_drew)); exact HO_10.out⟩, ⟨by repeat (first | (with_reducible first | exact HB.out | apply below_alloc | apply pw_below_drewN | apply below_drew1) | exact HB.out)⟩⟩
                     case round =>
                      clear H'
                      try clear c1
                      try clear c2
                      try clear p2
                      try clear q2
                      try clear c3
                      try clear c3b0
                      try clear c3b1
                      try clear p3
                      try clear q3
                      try clear hx3
                      try clear hf3
                      try clear p4
                      try clear q4
                      try clear hx4
                      try clear c5
                      try clear c6
                      try clear p6
                      try clear c8
                      try clear c8b0
                      try clear c8b1
                      try clear c9
                      try clear c9b0
                      try clear c9b1
                      try clear c18
                      try clear c18b0
                      try clear c19
                      try clear c19b0
                      try clear c19b1
                      try clear c20
                      try clear c20b0
                      try clear c20b1
                      try clear c22
                      try clear c23
                      try clear q23
                      try clear c27
                      try clear c27b0
                      try clear c28
                      try clear c28b0
                      try clear c30
                      try clear c30b0
                      try clear c31
                      try clear c31b0
                      try clear c33
                      try clear c33b0
                      try clear c34
                      try clear c34b0
                      try clear c35
                      try clear c35b0
                      try clear c35b1
                      try clear c37
                      try clear c37b0
                      try clear p38
                      try clear q38
                      try clear hx38
                      try clear hf38
                      try clear c39
                      try clear q39
                      try clear hx38_0
                      try clear hx465_0
                      try clear hx466_0
                      try clear hx467_0
                      try clear hx468_0
                      try clear p2
                      try clear p38
                      try clear p465
                      try clear p466
                      try clear p467
                      try clear p468
                      try clear p6
                      try clear q023
                      try clear q039
                      try clear q23
                      try clear q38
                      try clear q39
                      try clear q465
                      try clear q466
                      try clear q467
                      try clear q468
                      obtain ⟨x9_3, x13_3, x14_3, rfl, rfl, HA, HK3, HO_7, HO_9, HO_10, HB⟩ := hrel
                      have hl9_3 := (Kd.R_reads' HO_9.out).1
                      rw [hl9_3] at HO_9
                      (try simp only [hl9_3])
                      (try simp only [hl9_3] at HO_7)
                      (try simp only [hl9_3] at HO_10)
                      have hl10_3 := (Kd.R_reads' HO_10.out).1
                      rw [hl10_3] at HO_10
                      (try simp only [hl10_3])
                      (try simp only [hl10_3] at HO_7)
                      (try simp only [hl10_3] at HO_9)
                      cases gk with
                      | zero => exact absurd HA.out (by simp [galoisref01_DivMod.l2])
                      | succ k3 =>
                       have H := HA.out
                       clear HA
                       simp only [galoisref01_DivMod.l2] at H
                       by_cases c45 : x14_3 < (t449.length : Int)
                       ·rw [if_pos c45] at H
                        have c45b0 : decide (x14_3 < (t449.length : Int)) = true := decide_eq_true c45
                        (try (have c45b0y := c45b0; simp only [hl10_1, hl10_2, hl9_3, hl10_3] at c45b0y))
                        clear c45
                        by_cases c46 : 0 ≤ x14_3
                        ·rw [if_pos c46] at H
                         have c46b0 : decide (0 ≤ x14_3) = true := decide_eq_true c46
                         clear c46
                         by_cases c47 : x14_3 < (t449.length : Int)
                         ·rw [if_pos c47] at H
                          have c47b0 : decide (x14_3 < (t449.length : Int)) = true := decide_eq_true c47
                          (try (have c47b0y := c47b0; simp only [hl10_1, hl10_2, hl9_3, hl10_3] at c47b0y))
                          clear c47
                          obtain ⟨ji48, hji48⟩ : ∃ j_ : Int, (wrap64 (x11_1 + x14_3)) = j_ := ⟨_, rfl⟩
                          replace H : (if 0 ≤ (ji48) then (if (ji48) < (x9_3.length : Int) then (if (rd x9_3 (ji48)) < (Go.bits .and .u64 (IntKind.u64.wrap ((IntKind.u64.wrap ((rd t449 x14_3) * ji36)) + x13_3)) 4294967295) then ((some (x9_3.set ((ji48) : Int).toNat (IntKind.u64.wrap ((rd x9_3 (ji48)) + 4294967296)) : List Int)).bind fun y473 => (galoisref01_DivMod.l2 k3 t449 (t449.length : Int) (y473.set ((ji48) : Int).toNat (IntKind.u64.wrap ((rd y473 (ji48)) - (Go.bits .and .u64 (IntKind.u64.wrap ((IntKind.u64.wrap ((rd t449 x14_3) * ji36)) + x13_3)) 4294967295)))) y469 x11_1 ji36 (IntKind.u64.wrap (((IntKind.u64.wrap ((IntKind.u64.wrap ((rd t449 x14_3) * ji36)) + x13_3)) / 4294967296) + 1)) (wrap64 (x14_3 + 1)))) else (galoisref01_DivMod.l2 k3 t449 (t449.length : Int) (x9_3.set ((ji48) : Int).toNat (IntKind.u64.wrap ((rd x9_3 (ji48)) - (Go.bits .and .u64 (IntKind.u64.wrap ((IntKind.u64.wrap ((rd t449 x14_3) * ji36)) + x13_3)) 4294967295)))) y469 x11_1 ji36 ((IntKind.u64.wrap ((IntKind.u64.wrap ((rd t449 x14_3) * ji36)) + x13_3)) / 4294967296) (wrap64 (x14_3 + 1)))) else (none)) else (none)) = some (r1, r2) := by first | (rw [hji48] at H; exact H) | (simp only [hji48] at H ⊢; exact H)
                          have hji48w : (IntKind.i64.wrap (x11_1 + x14_3)) = ji48 := (i64_w _).trans hji48
                          by_cases c49 : 0 ≤ (ji48)
                          ·rw [if_pos c49] at H
                           have c49b0 : decide (0 ≤ (ji48)) = true := decide_eq_true c49
                           clear c49
                           by_cases c50 : (ji48) < (x9_3.length : Int)
                           ·rw [if_pos c50] at H
                            have c50b0 : decide ((ji48) < (x9_3.length : Int)) = true := decide_eq_true c50
                            (try (have c50b0y := c50b0; simp only [hl10_1, hl10_2, hl9_3, hl10_3] at c50b0y))
                            clear c50
                            by_cases c51 : (rd x9_3 (ji48)) < (Go.bits .and .u64 (IntKind.u64.wrap ((IntKind.u64.wrap ((rd t449 x14_3) * ji36)) + x13_3)) 4294967295)
                            ·rw [if_pos c51] at H
                             have c51b0 : decide ((rd x9_3 (ji48)) < (Go.bits .and .u64 (IntKind.u64.wrap ((IntKind.u64.wrap ((rd t449 x14_3) * ji36)) + x13_3)) 4294967295)) = true := decide_eq_true c51
                             clear c51
                             obtain ⟨y473, hy473⟩ : ∃ y_ : List Int, y_ = (x9_3.set ((ji48) : Int).toNat (IntKind.u64.wrap ((rd x9_3 (ji48)) + 4294967296))) := ⟨_, rfl⟩
                             replace H : (galoisref01_DivMod.l2 k3 t449 (t449.length : Int) (y473.set ((ji48) : Int).toNat (IntKind.u64.wrap ((rd y473 (ji48)) - (Go.bits .and .u64 (IntKind.u64.wrap ((IntKind.u64.wrap ((rd t449 x14_3) * ji36)) + x13_3)) 4294967295)))) y469 x11_1 ji36 (IntKind.u64.wrap (((IntKind.u64.wrap ((IntKind.u64.wrap ((rd t449 x14_3) * ji36)) + x13_3)) / 4294967296) + 1)) (wrap64 (x14_3 + 1))) = some (r1, r2) := by first | (rw [hy473]; with_reducible exact H) | (have H2_ := (Option.bind_some _ _).symm.trans H; rw [hy473]; with_reducible exact H2_) | (have H2_ := (Option.bind_some _ _).symm.trans H; with_reducible exact H2_) | with_reducible exact H | (rw [hy473]; exact H) | exact H
                             have Ny473 := Aside0.mk hy473
                             clear hy473
                             obtain ⟨y475, hy475⟩ : ∃ y_ : List Int, y_ = (y473.set ((ji48) : Int).toNat (IntKind.u64.wrap ((rd y473 (ji48)) - (Go.bits .and .u64 (IntKind.u64.wrap ((IntKind.u64.wrap ((rd t449 x14_3) * ji36)) + x13_3)) 4294967295)))) := ⟨_, rfl⟩
                             replace H : (galoisref01_DivMod.l2 k3 t449 (t449.length : Int) y475 y469 x11_1 ji36 (IntKind.u64.wrap (((IntKind.u64.wrap ((IntKind.u64.wrap ((rd t449 x14_3) * ji36)) + x13_3)) / 4294967296) + 1)) (wrap64 (x14_3 + 1))) = some (r1, r2) := by first | (rw [hy475]; with_reducible exact H) | (have H2_ := (Option.bind_some _ _).symm.trans H; rw [hy475]; with_reducible exact H2_) | (have H2_ := (Option.bind_some _ _).symm.trans H; with_reducible exact H2_) | with_reducible exact H | (rw [hy475]; exact H) | exact H
                             have Ny475 := Aside0.mk hy475
                             clear hy475
                             have H' := Aside0.mk H
                             clear H
                             have p470 : 0 ≤ (x14_3 : Int) := of_decide_eq_true (by first | (with_reducible assumption) | assumption)
                             have q470 : x14_3 < (t449.length : Int) := of_decide_eq_true (by first | (with_reducible assumption) | assumption)
                             obtain ⟨ad470, e470, hx470_0⟩ := Kd.at_int (Kd.R_reads' HO_7.out).2.2 x14_3 p470 q470
                             obtain rfl : ad467 = ad470 := (by injection e470)
                             replace p470 := eq_true p470
                             replace q470 := eq_true q470
                             have p471 : 0 ≤ ((ji48) : Int) := of_decide_eq_true (by first | (with_reducible assumption) | assumption)
                             have q471 : (ji48) < (x9_3.length : Int) := of_decide_eq_true (by first | (with_reducible assumption) | assumption)
                             obtain ⟨ad471, e471, hx471_0⟩ := Kd.at_int (Kd.R_reads' HO_9.out).2.2 (ji48) p471 q471
                             obtain rfl : ad465 = ad471 := (by injection e471)
                             replace p471 := eq_true p471
                             replace q471 := eq_true q471
                             have p472 : 0 ≤ ((ji48) : Int) := of_decide_eq_true (by first | (with_reducible assumption) | assumption)
                             have q472 : (ji48) < (x9_3.length : Int) := of_decide_eq_true (by first | (with_reducible assumption) | assumption)
                             obtain ⟨ad472, e472, hx472_0⟩ := Kd.at_int (Kd.R_reads' HO_9.out).2.2 (ji48) p472 q472
                             obtain rfl : ad465 = ad472 := (by injection e472)
                             replace p472 := eq_true p472
                             replace q472 := eq_true q472
                             have p52 : 0 ≤ ((ji48) : Int) := of_decide_eq_true (by first | (with_reducible assumption) | assumption)
                             have q52 : ((ji48) : Int) < ((x9_3.length : Int) : Int) := of_decide_eq_true (by first | (with_reducible assumption) | assumption)
                             obtain ⟨go52, co52, eo52, gb52, gl52, cl52, HG52⟩ := Kd.R_form HO_9.out (by omega)
                             (first | cases eo52 | (injection eo52 with ea_ en_ ec_; (first | subst ea_ | (injection ea_ with ea_; subst ea_)); subst ec_; clear en_))
                             have GB52 := Aside0.mk gb52
                             have GG52 := Aside0.mk HG52
                             clear gb52 gl52 HG52
                             (first | simp only [add_plain] at hx465_0 | skip)
                             (first | simp only [add_plain] at hx466_0 | skip)
                             (first | simp only [add_plain] at hx471_0 | skip)
                             (first | simp only [add_plain] at hx472_0 | skip)
                             obtain ⟨hx52_0, hf52_0⟩ := Kd.R_celln 0 HO_9.out ((ji48) : Int) p52 q52; (try simp only [Int.toNat_natCast] at hx52_0 hf52_0)
                             replace p52 := eq_true p52
                             replace q52 := eq_true q52
                             have HP54 := Kd.R_putg HO_9.out ((ji48) : Int) (IntKind.u64.wrap ((rd x9_3 (ji48)) + 4294967296))
                             go_wp2_with (first | ((with_reducible refine gate_store (t := 49) (p := 114) rfl ?_); refine store_event (t := 49) (p := 114) (v := ?vo_w55) (w1 := (wr.setCell ⟨go52, ((ji48) : Int).toNat, none⟩ (.int .u64 (IntKind.u64.wrap ((rd x9_3 (ji48)) + 4294967296))))) ?hg ?ho ?hn ?hr ?_; (case ho => rfl); (case hg => rfl); (case hn => rfl); (case hr => first | (go_simp; done) | (go_simp; rfl)); intro w55 hw; have hg : wr.grownBy w55 (some go52) := (by rw [hw]; exact HP54.2); have hp_ : Kd.R (Kd.int .u64) 49 w55 w.heap.size (fun k_ => some k_ ≠ (.slice (some ad467) t449.length co12 : Value).ownBlock ∧ some k_ ≠ (.slice (some ⟨go38, 0, none⟩) y469.length co17 : Value).ownBlock) (.slice (some ⟨go52, 0, none⟩) x9_3.length co40) y473 := (by rw [hw, Ny473.out]; exact HP54.1); clear HP54; have n0_ := Aside0.mk (Kd.R_after (v := (.slice (some ⟨go52, 0, none⟩) x9_3.length co40)) (v1 := (.slice (some ⟨go52, 0, none⟩) x9_3.length co40)) (ok := (fun k_ => some k_ ≠ (.slice (some ⟨go38, 0, none⟩) y469.length co17 : Value).ownBlock)) (by (with_reducible repeat (first | apply Kd.R_alloc | apply Kd.R_drewN | apply Kd.R_drew)); exact Kd.R_mono HO_7.out (fun _ hk => ⟨hk.2, hk.1⟩)) hg (.inl rfl)); have n1_ := Aside0.mk (hp_); have n2_ := Aside0.mk (Kd.R_after (v := (.slice (some ⟨go52, 0, none⟩) x9_3.length co40)) (v1 := (.slice (some ⟨go52, 0, none⟩) x9_3.length co40)) (ok := (fun k_ => some k_ ≠ (.slice (some ad467) t449.length co12 : Value).ownBlock)) (by (with_reducible repeat (first | apply Kd.R_alloc | apply Kd.R_drewN | apply Kd.R_drew)); exact HO_10.out) hg (.inl rfl)); have n3_ := Aside0.mk ((by rw [hw]; exact below_set (HB.out) GB52.out : Below w.heap.size w w55)); clear HO_7; clear HO_9; clear HO_10; clear HB; have HO_7 := n0_; have HO_9 := n1_; have HO_10 := n2_; have HB := n3_; clear n0_ n1_ n2_ n3_; clear hg hw hp_; have p474 : 0 ≤ ((ji48) : Int) := of_decide_eq_true (by first | (with_reducible assumption) | assumption); have q474 : (ji48) < (y473.length : Int) := (by have h_ : ((ji48) : Int) < ((x9_3.length : Int) : Int) := of_decide_eq_true (by first | (with_reducible assumption) | assumption); first | (have e_ := (Kd.R_reads' HO_9.out).1; omega) | simpa only [Ny473.out, List.length_set] using h_); have ql474 : (((ji48) : Int) < ((x9_3.length : Int) : Int)) = True := eq_true (of_decide_eq_true (by first | (with_reducible assumption) | assumption)); obtain ⟨ad474, e474, hx474_0⟩ := Kd.at_int (Kd.R_reads' HO_9.out).2.2 (ji48) p474 q474; obtain rfl : (⟨go52, 0, none⟩ : Addr) = ad474 := (by injection e474); (first | simp only [add_plain] at hx474_0 | simp only [add_at] at hx474_0 | simp only [Addr.add, Nat.zero_add] at hx474_0 | skip); replace p474 := eq_true p474; replace q474 := eq_true q474; have p53 : 0 ≤ ((ji48) : Int) := of_decide_eq_true (by first | (with_reducible assumption) | assumption); have q53 : ((ji48) : Int) < ((x9_3.length : Int) : Int) := of_decide_eq_true (by first | (with_reducible assumption) | assumption); obtain ⟨hx53_0, hf53_0⟩ := Kd.R_celln 0 HO_9.out ((ji48) : Int) p53 q53; (try simp only [Int.toNat_natCast] at hx53_0 hf53_0); replace p53 := eq_true p53; replace q53 := eq_true q53; obtain ⟨hy56_, hz56_⟩ := Kd.R_celln 0 HO_9.out ((ji48) : Int) (of_decide_eq_true (by first | (with_reducible assumption) | assumption)) (of_decide_eq_true (by first | (with_reducible assumption) | assumption)); (try simp only [Int.toNat_natCast] at hy56_ hz56_); have HP56 := Kd.R_putg HO_9.out ((ji48) : Int) (IntKind.u64.wrap ((rd y473 (ji48)) - (Go.bits .and .u64 (IntKind.u64.wrap ((IntKind.u64.wrap ((rd t449 x14_3) * ji36)) + x13_3)) 4294967295)))) | ((with_reducible refine gate_store (t := 49) (p := 130) rfl ?_); refine store_event (t := 49) (p := 130) (v := ?vo_w57) (w1 := (w55.setCell ⟨go52, ((ji48) : Int).toNat, none⟩ (.int .u64 (IntKind.u64.wrap ((rd y473 (ji48)) - (Go.bits .and .u64 (IntKind.u64.wrap ((IntKind.u64.wrap ((rd t449 x14_3) * ji36)) + x13_3)) 4294967295)))))) ?hg ?ho ?hn ?hr ?_; (case ho => rfl); (case hg => rfl); (case hn => rfl); (case hr => first | (go_simp; done) | (go_simp; rfl)); intro w57 hw; have hg : w55.grownBy w57 (some go52) := (by rw [hw]; exact HP56.2); have hp_ : Kd.R (Kd.int .u64) 49 w57 w.heap.size (fun k_ => some k_ ≠ (.slice (some ad467) t449.length co12 : Value).ownBlock ∧ some k_ ≠ (.slice (some ⟨go38, 0, none⟩) y469.length co17 : Value).ownBlock) (.slice (some ⟨go52, 0, none⟩) x9_3.length co40) y475 := (by rw [hw, Ny475.out]; exact HP56.1); clear HP56; have n0_ := Aside0.mk (Kd.R_after (v := (.slice (some ⟨go52, 0, none⟩) x9_3.length co40)) (v1 := (.slice (some ⟨go52, 0, none⟩) x9_3.length co40)) (ok := (fun k_ => some k_ ≠ (.slice (some ⟨go38, 0, none⟩) y469.length co17 : Value).ownBlock)) (by (with_reducible repeat (first | apply Kd.R_alloc | apply Kd.R_drewN | apply Kd.R_drew)); exact HO_7.out) hg (.inl rfl)); have n1_ := Aside0.mk (hp_); have n2_ := Aside0.mk (Kd.R_after (v := (.slice (some ⟨go52, 0, none⟩) x9_3.length co40)) (v1 := (.slice (some ⟨go52, 0, none⟩) x9_3.length co40)) (ok := (fun k_ => some k_ ≠ (.slice (some ad467) t449.length co12 : Value).ownBlock)) (by (with_reducible repeat (first | apply Kd.R_alloc | apply Kd.R_drewN | apply Kd.R_drew)); exact HO_10.out) hg (.inl rfl)); have n3_ := Aside0.mk ((by rw [hw]; exact below_set (HB.out) GB52.out : Below w.heap.size w w57)); clear HO_7; clear HO_9; clear HO_10; clear HB; have HO_7 := n0_; have HO_9 := n1_; have HO_10 := n2_; have HB := n3_; clear n0_ n1_ n2_ n3_; clear hg hw hp_))
                             (try simp only [← hl9_3, ← hl10_3])
                             go_roundg k3
                             case measure => have := HK1.out; have := HK2.out; have := HK3.out; omega
                             case rel => exact ⟨(y475), (IntKind.u64.wrap (((IntKind.u64.wrap ((IntKind.u64.wrap ((rd t449 x14_3) * ji36)) + x13_3)) / 4294967296) + 1)), (wrap64 (x14_3 + 1)), (by first | rfl | (simp; done) | (simp only [← hji36] <;> (first | rfl | simp)) | (simp [*]; done)), (by first | rfl | (simp; done) | (simp [*]; done)), H', ⟨by have := HK1.out; have := HK2.out; have := HK3.out; omega⟩, ⟨by (try simp only [hl10_1]); (try simp only [hl10_2]); (try simp only [hl9_3]); (try simp only [hl10_3]); (with_reducible repeat (first | apply Kd.R_alloc | apply Kd.R_drewN | apply Kd.R_drew)); exact Kd.R_mono HO_7.out (fun _ hk => ⟨hk.2, hk.1⟩)⟩, ⟨by (try simp only [hl10_1]); (try simp only [hl10_2]); (try simp only [hl9_3]); (try simp only [hl10_3]); (with_reducible repeat (first | apply Kd.R_alloc | apply Kd.R_drewN | apply Kd.R_drew)); exact HO_9.out⟩, ⟨by (try simp only [hl10_1]); (try simp only [hl10_2]); (try simp only [hl9_3]); (try simp only [hl10_3]); (with_reducible repeat (first | apply Kd.R_alloc | apply Kd.R_drewN | apply Kd.R_drew)); exact HO_10.out⟩, ⟨by repeat (first | (with_reducible first | exact HB.out | apply below_alloc | apply pw_below_drewN | apply below_drew1) | exact HB.out)⟩⟩
                            ·rw [if_neg c51] at H
                             have c51b0 : decide ((rd x9_3 (ji48)) < (Go.bits .and .u64 (IntKind.u64.wrap ((IntKind.u64.wrap ((rd t449 x14_3) * ji36)) + x13_3)) 4294967295)) = false := decide_eq_false c51
                             clear c51
                             obtain ⟨y477, hy477⟩ : ∃ y_ : List Int, y_ = (x9_3.set ((ji48) : Int).toNat (IntKind.u64.wrap ((rd x9_3 (ji48)) - (Go.bits .and .u64 (IntKind.u64.wrap ((IntKind.u64.wrap ((rd t449 x14_3) * ji36)) + x13_3)) 4294967295)))) := ⟨_, rfl⟩
                             replace H : (galoisref01_DivMod.l2 k3 t449 (t449.length : Int) y477 y469 x11_1 ji36 ((IntKind.u64.wrap ((IntKind.u64.wrap ((rd t449 x14_3) * ji36)) + x13_3)) / 4294967296) (wrap64 (x14_3 + 1))) = some (r1, r2) := by first | (rw [hy477]; with_reducible exact H) | (have H2_ := (Option.bind_some _ _).symm.trans H; rw [hy477]; with_reducible exact H2_) | (have H2_ := (Option.bind_some _ _).symm.trans H; with_reducible exact H2_) | with_reducible exact H | (rw [hy477]; exact H) | exact H
                             have Ny477 := Aside0.mk hy477
                             clear hy477
                             have H' := Aside0.mk H
                             clear H
                             have p470 : 0 ≤ (x14_3 : Int) := of_decide_eq_true (by first | (with_reducible assumption) | assumption)
                             have q470 : x14_3 < (t449.length : Int) := of_decide_eq_true (by first | (with_reducible assumption) | assumption)
                             obtain ⟨ad470, e470, hx470_0⟩ := Kd.at_int (Kd.R_reads' HO_7.out).2.2 x14_3 p470 q470
                             obtain rfl : ad467 = ad470 := (by injection e470)
                             replace p470 := eq_true p470
                             replace q470 := eq_true q470
                             have p471 : 0 ≤ ((ji48) : Int) := of_decide_eq_true (by first | (with_reducible assumption) | assumption)
                             have q471 : (ji48) < (x9_3.length : Int) := of_decide_eq_true (by first | (with_reducible assumption) | assumption)
                             obtain ⟨ad471, e471, hx471_0⟩ := Kd.at_int (Kd.R_reads' HO_9.out).2.2 (ji48) p471 q471
                             obtain rfl : ad465 = ad471 := (by injection e471)
                             replace p471 := eq_true p471
                             replace q471 := eq_true q471
                             have p476 : 0 ≤ ((ji48) : Int) := of_decide_eq_true (by first | (with_reducible assumption) | assumption)
                             have q476 : (ji48) < (x9_3.length : Int) := of_decide_eq_true (by first | (with_reducible assumption) | assumption)
                             obtain ⟨ad476, e476, hx476_0⟩ := Kd.at_int (Kd.R_reads' HO_9.out).2.2 (ji48) p476 q476
                             obtain rfl : ad465 = ad476 := (by injection e476)
                             replace p476 := eq_true p476
                             replace q476 := eq_true q476
                             have p58 : 0 ≤ ((ji48) : Int) := of_decide_eq_true (by first | (with_reducible assumption) | assumption)
                             have q58 : ((ji48) : Int) < ((x9_3.length : Int) : Int) := of_decide_eq_true (by first | (with_reducible assumption) | assumption)
                             obtain ⟨go58, co58, eo58, gb58, gl58, cl58, HG58⟩ := Kd.R_form HO_9.out (by omega)
                             (first | cases eo58 | (injection eo58 with ea_ en_ ec_; (first | subst ea_ | (injection ea_ with ea_; subst ea_)); subst ec_; clear en_))
                             have GB58 := Aside0.mk gb58
                             have GG58 := Aside0.mk HG58
                             clear gb58 gl58 HG58
                             (first | simp only [add_plain] at hx471_0 | skip)
                             (first | simp only [add_plain] at hx476_0 | skip)
                             obtain ⟨hx58_0, hf58_0⟩ := Kd.R_celln 0 HO_9.out ((ji48) : Int) p58 q58; (try simp only [Int.toNat_natCast] at hx58_0 hf58_0)
                             replace p58 := eq_true p58
                             replace q58 := eq_true q58
                             have HP59 := Kd.R_putg HO_9.out ((ji48) : Int) (IntKind.u64.wrap ((rd x9_3 (ji48)) - (Go.bits .and .u64 (IntKind.u64.wrap ((IntKind.u64.wrap ((rd t449 x14_3) * ji36)) + x13_3)) 4294967295)))
                             go_wp2_with (first | ((with_reducible refine gate_store (t := 49) (p := 130) rfl ?_); refine store_event (t := 49) (p := 130) (v := ?vo_w60) (w1 := (wr.setCell ⟨go58, ((ji48) : Int).toNat, none⟩ (.int .u64 (IntKind.u64.wrap ((rd x9_3 (ji48)) - (Go.bits .and .u64 (IntKind.u64.wrap ((IntKind.u64.wrap ((rd t449 x14_3) * ji36)) + x13_3)) 4294967295)))))) ?hg ?ho ?hn ?hr ?_; (case ho => rfl); (case hg => rfl); (case hn => rfl); (case hr => first | (go_simp; done) | (go_simp; rfl)); intro w60 hw; have hg : wr.grownBy w60 (some go58) := (by rw [hw]; exact HP59.2); have hp_ : Kd.R (Kd.int .u64) 49 w60 w.heap.size (fun k_ => some k_ ≠ (.slice (some ad467) t449.length co12 : Value).ownBlock ∧ some k_ ≠ (.slice (some ⟨go38, 0, none⟩) y469.length co17 : Value).ownBlock) (.slice (some ⟨go58, 0, none⟩) x9_3.length co40) y477 := (by rw [hw, Ny477.out]; exact HP59.1); clear HP59; have n0_ := Aside0.mk (Kd.R_after (v := (.slice (some ⟨go58, 0, none⟩) x9_3.length co40)) (v1 := (.slice (some ⟨go58, 0, none⟩) x9_3.length co40)) (ok := (fun k_ => some k_ ≠ (.slice (some ⟨go38, 0, none⟩) y469.length co17 : Value).ownBlock)) (by (with_reducible repeat (first | apply Kd.R_alloc | apply Kd.R_drewN | apply Kd.R_drew)); exact Kd.R_mono HO_7.out (fun _ hk => ⟨hk.2, hk.1⟩)) hg (.inl rfl)); have n1_ := Aside0.mk (hp_); have n2_ := Aside0.mk (Kd.R_after (v := (.slice (some ⟨go58, 0, none⟩) x9_3.length co40)) (v1 := (.slice (some ⟨go58, 0, none⟩) x9_3.length co40)) (ok := (fun k_ => some k_ ≠ (.slice (some ad467) t449.length co12 : Value).ownBlock)) (by (with_reducible repeat (first | apply Kd.R_alloc | apply Kd.R_drewN | apply Kd.R_drew)); exact HO_10.out) hg (.inl rfl)); have n3_ := Aside0.mk ((by rw [hw]; exact below_set (HB.out) GB58.out : Below w.heap.size w w60)); clear HO_7; clear HO_9; clear HO_10; clear HB; have HO_7 := n0_; have HO_9 := n1_; have HO_10 := n2_; have HB := n3_; clear n0_ n1_ n2_ n3_; clear hg hw hp_))
                             (try simp only [← hl9_3, ← hl10_3])
                             go_roundg k3
                             case measure => have := HK1.out; have := HK2.out; have := HK3.out; omega
                             case rel => exact ⟨(y477), ((IntKind.u64.wrap ((IntKind.u64.wrap ((rd t449 x14_3) * ji36)) + x13_3)) / 4294967296), (wrap64 (x14_3 + 1)), (by first | rfl | (simp; done) | (simp only [← hji36] <;> (first | rfl | simp)) | (simp [*]; done)), (by first | rfl | (simp; done) | (simp [*]; done)), H', ⟨by have := HK1.out; have := HK2.out; have := HK3.out; omega⟩, ⟨by (try simp only [hl10_1]); (try simp only [hl10_2]); (try simp only [hl9_3]); (try simp only [hl10_3]); (with_reducible repeat (first | apply Kd.R_alloc | apply Kd.R_drewN | apply Kd.R_drew)); exact Kd.R_mono HO_7.out (fun _ hk => ⟨hk.2, hk.1⟩)⟩, ⟨by (try simp only [hl10_1]); (try simp only [hl10_2]); (try simp only [hl9_3]); (try simp only [hl10_3]); (with_reducible repeat (first | apply Kd.R_alloc | apply Kd.R_drewN | apply Kd.R_drew)); exact HO_9.out⟩, ⟨by (try simp only [hl10_1]); (try simp only [hl10_2]); (try simp only [hl9_3]); (try simp only [hl10_3]); (with_reducible repeat (first | apply Kd.R_alloc | apply Kd.R_drewN | apply Kd.R_drew)); exact HO_10.out⟩, ⟨by repeat (first | (with_reducible first | exact HB.out | apply below_alloc | apply pw_below_drewN | apply below_drew1) | exact HB.out)⟩⟩
                           ·rw [if_neg c50] at H
                            exact absurd H (by simp)
                          ·rw [if_neg c49] at H
                           exact absurd H (by simp)
                         ·rw [if_neg c47] at H
                          exact absurd H (by simp)
                        ·rw [if_neg c46] at H
                         exact absurd H (by simp)
                       ·rw [if_neg c45] at H
                        have c45b0 : decide (x14_3 < (t449.length : Int)) = false := decide_eq_false c45
                        (try (have c45b0y := c45b0; simp only [hl10_1, hl10_2, hl9_3, hl10_3] at c45b0y))
                        clear c45
                        replace H : (if 0 ≤ (ji26) then (if (ji26) < (x9_3.length : Int) then (galoisref01_DivMod.l1 k3 t449 (t449.length : Int) (x9_3.set ((ji26) : Int).toNat (IntKind.u64.wrap ((rd x9_3 (ji26)) - x13_3))) y469 x11_1) else (none)) else (none)) = some (r1, r2) := by first | (rw [hji26] at H; exact H) | (simp only [hji26] at H ⊢; exact H)
                        by_cases c62 : 0 ≤ (ji26)
                        ·rw [if_pos c62] at H
                         have c62b0 : decide (0 ≤ (ji26)) = true := decide_eq_true c62
                         clear c62
                         by_cases c63 : (ji26) < (x9_3.length : Int)
                         ·rw [if_pos c63] at H
                          have c63b0 : decide ((ji26) < (x9_3.length : Int)) = true := decide_eq_true c63
                          (try (have c63b0y := c63b0; simp only [hl10_1, hl10_2, hl9_3, hl10_3] at c63b0y))
                          clear c63
                          obtain ⟨y479, hy479⟩ : ∃ y_ : List Int, y_ = (x9_3.set ((ji26) : Int).toNat (IntKind.u64.wrap ((rd x9_3 (ji26)) - x13_3))) := ⟨_, rfl⟩
                          replace H : (galoisref01_DivMod.l1 k3 t449 (t449.length : Int) y479 y469 x11_1) = some (r1, r2) := by first | (rw [hy479]; with_reducible exact H) | (have H2_ := (Option.bind_some _ _).symm.trans H; rw [hy479]; with_reducible exact H2_) | (have H2_ := (Option.bind_some _ _).symm.trans H; with_reducible exact H2_) | with_reducible exact H | (rw [hy479]; exact H) | exact H
                          have Ny479 := Aside0.mk hy479
                          clear hy479
                          have H' := Aside0.mk H
                          clear H
                          have p478 : 0 ≤ ((ji26) : Int) := of_decide_eq_true (by first | (with_reducible assumption) | assumption)
                          have q478 : (ji26) < (x9_3.length : Int) := of_decide_eq_true (by first | (with_reducible assumption) | assumption)
                          obtain ⟨ad478, e478, hx478_0⟩ := Kd.at_int (Kd.R_reads' HO_9.out).2.2 (ji26) p478 q478
                          obtain rfl : ad465 = ad478 := (by injection e478)
                          replace p478 := eq_true p478
                          replace q478 := eq_true q478
                          have p64 : 0 ≤ ((ji26) : Int) := of_decide_eq_true (by first | (with_reducible assumption) | assumption)
                          have q64 : ((ji26) : Int) < ((x9_3.length : Int) : Int) := of_decide_eq_true (by first | (with_reducible assumption) | assumption)
                          obtain ⟨go64, co64, eo64, gb64, gl64, cl64, HG64⟩ := Kd.R_form HO_9.out (by omega)
                          (first | cases eo64 | (injection eo64 with ea_ en_ ec_; (first | subst ea_ | (injection ea_ with ea_; subst ea_)); subst ec_; clear en_))
                          have GB64 := Aside0.mk gb64
                          have GG64 := Aside0.mk HG64
                          clear gb64 gl64 HG64
                          (first | simp only [add_plain] at hx478_0 | skip)
                          obtain ⟨hx64_0, hf64_0⟩ := Kd.R_celln 0 HO_9.out ((ji26) : Int) p64 q64; (try simp only [Int.toNat_natCast] at hx64_0 hf64_0)
                          replace p64 := eq_true p64
                          replace q64 := eq_true q64
                          have HP65 := Kd.R_putg HO_9.out ((ji26) : Int) (IntKind.u64.wrap ((rd x9_3 (ji26)) - x13_3))
                          go_wp2_with (first | ((with_reducible refine gate_store (t := 49) (p := 143) rfl ?_); refine store_event (t := 49) (p := 143) (v := ?vo_w66) (w1 := (wr.setCell ⟨go64, ((ji26) : Int).toNat, none⟩ (.int .u64 (IntKind.u64.wrap ((rd x9_3 (ji26)) - x13_3))))) ?hg ?ho ?hn ?hr ?_; (case ho => rfl); (case hg => rfl); (case hn => rfl); (case hr => first | (go_simp; done) | (go_simp; rfl)); intro w66 hw; have hg : wr.grownBy w66 (some go64) := (by rw [hw]; exact HP65.2); have hp_ : Kd.R (Kd.int .u64) 49 w66 w.heap.size (fun k_ => some k_ ≠ (.slice (some ad467) t449.length co12 : Value).ownBlock ∧ some k_ ≠ (.slice (some ⟨go38, 0, none⟩) y469.length co17 : Value).ownBlock) (.slice (some ⟨go64, 0, none⟩) x9_3.length co40) y479 := (by rw [hw, Ny479.out]; exact HP65.1); clear HP65; have n0_ := Aside0.mk (Kd.R_after (v := (.slice (some ⟨go64, 0, none⟩) x9_3.length co40)) (v1 := (.slice (some ⟨go64, 0, none⟩) x9_3.length co40)) (ok := (fun k_ => some k_ ≠ (.slice (some ⟨go38, 0, none⟩) y469.length co17 : Value).ownBlock)) (by (with_reducible repeat (first | apply Kd.R_alloc | apply Kd.R_drewN | apply Kd.R_drew)); exact Kd.R_mono HO_7.out (fun _ hk => ⟨hk.2, hk.1⟩)) hg (.inl rfl)); have n1_ := Aside0.mk (hp_); have n2_ := Aside0.mk (Kd.R_after (v := (.slice (some ⟨go64, 0, none⟩) x9_3.length co40)) (v1 := (.slice (some ⟨go64, 0, none⟩) x9_3.length co40)) (ok := (fun k_ => some k_ ≠ (.slice (some ad467) t449.length co12 : Value).ownBlock)) (by (with_reducible repeat (first | apply Kd.R_alloc | apply Kd.R_drewN | apply Kd.R_drew)); exact HO_10.out) hg (.inl rfl)); have n3_ := Aside0.mk ((by rw [hw]; exact below_set (HB.out) GB64.out : Below w.heap.size w w66)); clear HO_7; clear HO_9; clear HO_10; clear HB; have HO_7 := n0_; have HO_9 := n1_; have HO_10 := n2_; have HB := n3_; clear n0_ n1_ n2_ n3_; clear hg hw hp_))
                          (try simp only [← hl10_2, ← hl9_3, ← hl10_3])
                          go_roundg k3
                          case measure => have := HK1.out; have := HK2.out; have := HK3.out; omega
                          case rel => exact ⟨(y479), (y469), H', ⟨by have := HK1.out; have := HK2.out; have := HK3.out; omega⟩, ⟨by (try simp only [hl10_1]); (try simp only [hl10_2]); (try simp only [hl9_3]); (try simp only [hl10_3]); (with_reducible repeat (first | apply Kd.R_alloc | apply Kd.R_drewN | apply Kd.R_drew)); exact Kd.R_mono HO_7.out (fun _ hk => ⟨hk.2, hk.1⟩)⟩, ⟨by (try simp only [hl10_1]); (try simp only [hl10_2]); (try simp only [hl9_3]); (try simp only [hl10_3]); (with_reducible repeat (first | apply Kd.R_alloc | apply Kd.R_drewN | apply Kd.R_drew)); exact HO_9.out⟩, ⟨by (try simp only [hl10_1]); (try simp only [hl10_2]); (try simp only [hl9_3]); (try simp only [hl10_3]); (with_reducible repeat (first | apply Kd.R_alloc | apply Kd.R_drewN | apply Kd.R_drew)); exact HO_10.out⟩, ⟨by repeat (first | (with_reducible first | exact HB.out | apply below_alloc | apply pw_below_drewN | apply below_drew1) | exact HB.out)⟩⟩
                         ·rw [if_neg c63] at H
                          exact absurd H (by simp)
                        ·rw [if_neg c62] at H
                         exact absurd H (by simp)
                    ·rw [if_neg c37] at H
                     exact absurd H (by simp)
                  ·rw [if_neg c34] at H
                   exact absurd H (by simp)
                 ·rw [if_neg c33] at H
                  exact absurd H (by simp)
                ·rw [if_neg c31] at H
                 exact absurd H (by simp)
               ·rw [if_neg c30] at H
                exact absurd H (by simp)
              ·rw [if_neg c28] at H
               exact absurd H (by simp)
             ·rw [if_neg c27] at H
              exact absurd H (by simp)
           ·rw [if_neg c20] at H
            exact absurd H (by simp)
          ·rw [if_neg c19] at H
           exact absurd H (by simp)
       ·rw [if_neg c18] at H
        have c18b0 : decide (0 ≤ x11_1) = false := decide_eq_false c18
        clear c18
        replace H := Option.bind_eq_some_iff.mp H
        obtain ⟨t458, A670, H⟩ := H
        replace H : ((galoisref01_pack.f k1 x9_1).bind fun t459 => (some (t458, t459))) = some (r1, r2) := H
        have A67 := Aside0.mk A670
        clear A670
        replace H := Option.bind_eq_some_iff.mp H
        obtain ⟨t459, A680, H⟩ := H
        replace H : (some (t458, t459)) = some (r1, r2) := H
        have A68 := Aside0.mk A680
        clear A680
        simp only [Option.some.injEq, Prod.mk.injEq] at H
        obtain ⟨rfl, rfl⟩ := H
        go_wp2_with (first | ((with_reducible refine gate_callee (f := 53) rfl ?_); refine goesL_ (some 145) rfl rfl Try.func53 (by kernel_rfl) rfl #[.slice Ao17 x10_1.length co17] rfl (by (try simp only [List.map_toArray, List.map_cons, List.map_nil]); first | done | rfl | (simp only [List.length_drop, List.length_take]; rfl)) ?_; (with_reducible refine (galoisref01_pack.calls k1 _ _ x10_1 t458 _ ?side1 ?side2 A67.out).mono ?_); (case side1 => repeat (first | exact (Kd.R_reads' HO_10.out).2.2 | (with_reducible refine Kd.C_alloc ?_ _) | (with_reducible refine Kd.C_drewN ?_ _) | (with_reducible refine Kd.C_drew ?_))); (case side2 => exact (Kd.R_reads' HO_10.out).2.1); rintro e w69 ⟨rfl, hb⟩; refine ⟨_, rfl, ?_⟩; have n0_ := Aside0.mk (Kd.R_below (by (with_reducible repeat (first | apply Kd.R_alloc | apply Kd.R_drewN | apply Kd.R_drew)); exact HO_7.out) hb); have n1_ := Aside0.mk (Kd.R_below (by (with_reducible repeat (first | apply Kd.R_alloc | apply Kd.R_drewN | apply Kd.R_drew)); exact HO_9.out) hb); have n2_ := Aside0.mk (Kd.R_below (by (with_reducible repeat (first | apply Kd.R_alloc | apply Kd.R_drewN | apply Kd.R_drew)); exact HO_10.out) hb); have n3_ := Aside0.mk (below_step (by repeat (first | (with_reducible first | exact HB.out | apply below_alloc | apply pw_below_drewN | apply below_drew1) | exact HB.out)) hb); clear HO_7; clear HO_9; clear HO_10; clear HB; have HO_7 := n0_; have HO_9 := n1_; have HO_10 := n2_; have HB := n3_; clear n0_ n1_ n2_ n3_; (try clear hb); (try clear hb2); (try clear hk); (try clear hi); obtain ⟨Ao70, co70, eo70⟩ := Kd.R_slice HO_9.out; subst eo70) | ((with_reducible refine gate_callee (f := 53) rfl ?_); refine goesL_ (some 147) rfl rfl Try.func53 (by kernel_rfl) rfl #[.slice Ao70 x9_1.length co70] rfl (by (try simp only [List.map_toArray, List.map_cons, List.map_nil]); first | done | rfl | (simp only [List.length_drop, List.length_take]; rfl)) ?_; (with_reducible refine (galoisref01_pack.calls k1 _ _ x9_1 t459 _ ?side1 ?side2 A68.out).mono ?_); (case side1 => repeat (first | exact (Kd.R_reads' HO_9.out).2.2 | (with_reducible refine Kd.C_alloc ?_ _) | (with_reducible refine Kd.C_drewN ?_ _) | (with_reducible refine Kd.C_drew ?_))); (case side2 => exact (Kd.R_reads' HO_9.out).2.1); rintro e w71 ⟨rfl, hb⟩; refine ⟨_, rfl, ?_⟩; have n0_ := Aside0.mk (Kd.R_below (by (with_reducible repeat (first | apply Kd.R_alloc | apply Kd.R_drewN | apply Kd.R_drew)); exact HO_7.out) hb); have n1_ := Aside0.mk (Kd.R_below (by (with_reducible repeat (first | apply Kd.R_alloc | apply Kd.R_drewN | apply Kd.R_drew)); exact HO_9.out) hb); have n2_ := Aside0.mk (Kd.R_below (by (with_reducible repeat (first | apply Kd.R_alloc | apply Kd.R_drewN | apply Kd.R_drew)); exact HO_10.out) hb); have n3_ := Aside0.mk (below_step (by repeat (first | (with_reducible first | exact HB.out | apply below_alloc | apply pw_below_drewN | apply below_drew1) | exact HB.out)) hb); clear HO_7; clear HO_9; clear HO_10; clear HB; have HO_7 := n0_; have HO_9 := n1_; have HO_10 := n2_; have HB := n3_; clear n0_ n1_ n2_ n3_; (try clear hb); (try clear hb2); (try clear hk); (try clear hi)))
        go_ret2
        exact ⟨by first | rfl | (simp [errW_none, errW_some] <;> rfl) | (simp only [← hji7]; first | rfl | (simp [errW_none, errW_some] <;> rfl)) | (simp [*, errW_none, errW_some] <;> rfl), by repeat (first | (with_reducible first | exact HB.out | apply below_alloc | apply pw_below_drewN | apply below_drew1) | exact HB.out)⟩
    ·rw [if_neg c9] at H
     exact absurd H (by simp)
   ·rw [if_neg c8] at H
    exact absurd H (by simp)
  ·rw [if_neg c6] at H
   exact absurd H (by simp)
end Go.Proofs.Ytohkmnbnjacfaaa.All
namespace Go.Proofs.Ytohkmnbnjacfaaa.All
open Go.Proofs.YtohkmnbnjacfaaaX
open Go.RowKit Go.Proofs.YtohkmnbnjacfaaaW.PrintWords Go.Proofs.YtohkmnbnjacfaaaW.PrintLast Go.Proofs.YtohkmnbnjacfaaaW.PrintMore
attribute [local go_sem] max2_int min2_int max_two min_two max_three min_three max_four min_four
set_option linter.unusedVariables false
set_option linter.unusedSimpArgs false
def galoisref01_Gcd.l0 : Nat → ByteArray → ByteArray → Option (ByteArray)
 | 0, _, _ => none
 | k + 1, x0, x1 => if x1.toList = ([] : List UInt8) then (some x0) else ((galoisref01_DivMod.f k x0 x1).bind fun bt480 => (galoisref01_Gcd.l0 k x1 bt480.2))
def galoisref01_Gcd.f (k : Nat) (a0 : ByteArray) (a1 : ByteArray) : Option (ByteArray) := galoisref01_Gcd.l0 k a0 a1
theorem galoisref01_Gcd.mono_l : ∀ k, (∀ y0 y1, LeO (galoisref01_Gcd.l0 k y0 y1) (galoisref01_Gcd.l0 (k + 1) y0 y1))
 | 0 => fun _ _ r h => by simp [galoisref01_Gcd.l0] at h
 | k + 1 => by
  have ih0 := galoisref01_Gcd.mono_l k
  ·intro y0 y1
   unfold galoisref01_Gcd.l0
   repeat' first
   | (with_reducible exact ih0 _ _)
   | (with_reducible exact galoisref01_DivMod.mono _ _ _)
   | (with_reducible exact LeO.refl _)
   | (with_reducible exact LeO.none _)
   | (with_reducible refine LeO.ite ?_ ?_)
   | (with_reducible refine LeO.bind ?_ (fun _ => ?_))
   | exact ih0 _ _
   | exact galoisref01_DivMod.mono _ _ _
   | exact LeO.none _
   | refine LeO.ite ?_ ?_
   | refine LeO.bind ?_ (fun _ => ?_)
theorem galoisref01_Gcd.mono : ∀ a0 a1 k, LeO (galoisref01_Gcd.f k a0 a1) (galoisref01_Gcd.f (k + 1) a0 a1) := by
 intro a0 a1 k
 have ih0 := galoisref01_Gcd.mono_l k
 unfold galoisref01_Gcd.f
 repeat' first
   | (with_reducible exact ih0 _ _)
   | (with_reducible exact galoisref01_DivMod.mono _ _ _)
   | (with_reducible exact LeO.refl _)
   | (with_reducible exact LeO.none _)
   | (with_reducible refine LeO.ite ?_ ?_)
   | (with_reducible refine LeO.bind ?_ (fun _ => ?_))
   | exact ih0 _ _
   | exact galoisref01_DivMod.mono _ _ _
   | exact LeO.none _
   | refine LeO.ite ?_ ?_
   | refine LeO.bind ?_ (fun _ => ?_)
set_option maxHeartbeats 8000000 in
set_option maxRecDepth 100000 in
theorem galoisref01_Gcd.calls (k : Nat) (a0 : ByteArray) (a1 : ByteArray) (r : ByteArray) (w : World) (h : galoisref01_Gcd.f k a0 a1 = some r) :
  Calls Try.prog 19 #[.string a0, .string a1] w fun e w' => e = .returned (.string r) ∧ Below w.heap.size w w' := by
 have HB := Aside0.mk (Below.refl w.heap.size w)
 have H : (galoisref01_Gcd.l0 k a0 a1) = some r := h
 clear h
 have H' := Aside0.mk H
 clear H
 go_enter Try.func19, Try.ntmps19
 go_wp2
 go_loopg [0, 1] k (fun kq v0 v1 w' => ∃ (x0_1 : ByteArray) (x1_1 : ByteArray), v0 = .string x0_1 ∧ v1 = .string x1_1 ∧ Aside0 (galoisref01_Gcd.l0 kq x0_1 x1_1 = some r) ∧ Aside0 (kq ≤ k) ∧ Aside0 (Below w.heap.size w w'))
 case atStart => exact ⟨(a0), (a1), (by first | rfl | (simp; done) | (simp [*]; done)), (by first | rfl | (simp; done) | (simp [*]; done)), H', ⟨Nat.le_refl _⟩, ⟨by repeat (first | (with_reducible first | exact HB.out | apply below_alloc | apply pw_below_drewN | apply below_drew1) | exact HB.out)⟩⟩
 case round =>
  clear H'
  try clear c1
  try clear p2
  obtain ⟨x0_1, x1_1, rfl, rfl, HA, HK1, HB⟩ := hrel
  cases gk with
  | zero => exact absurd HA.out (by simp [galoisref01_Gcd.l0])
  | succ k1 =>
   have H := HA.out
   clear HA
   simp only [galoisref01_Gcd.l0] at H
   by_cases c3 : x1_1.toList = ([] : List UInt8)
   ·rw [if_pos c3] at H
    have c3b0 : (x1_1.toList == ([] : List UInt8)) = true := beq_iff_eq.mpr c3
    have c3b1 : (x1_1.toList != ([] : List UInt8)) = false := bne_eq_false_iff_eq.mpr c3
    clear c3
    obtain rfl := Option.some.inj H
    go_wp2
    go_ret
    exact ⟨by first | rfl | (simp [errW_none, errW_some] <;> rfl) | (simp [*, errW_none, errW_some] <;> rfl), by repeat (first | (with_reducible first | exact HB.out | apply below_alloc | apply pw_below_drewN | apply below_drew1) | exact HB.out)⟩
   ·rw [if_neg c3] at H
    have c3b0 : (x1_1.toList == ([] : List UInt8)) = false := beq_eq_false_iff_ne.mpr c3
    have c3b1 : (x1_1.toList != ([] : List UInt8)) = true := bne_iff_ne.mpr c3
    replace H := Option.bind_eq_some_iff.mp H
    obtain ⟨⟨t480, t481⟩, A40, H⟩ := H
    replace H : (galoisref01_Gcd.l0 k1 x1_1 t481) = some r := H
    have A4 := Aside0.mk A40
    clear A40
    have H' := Aside0.mk H
    clear H
    go_wp2_with (first | ((with_reducible refine gate_callee (f := 18) rfl ?_); refine goesL_ (some 12) rfl rfl Try.func18 (by kernel_rfl) rfl #[.string x0_1, .string x1_1] rfl (by (try simp only [List.map_toArray, List.map_cons, List.map_nil]); first | done | rfl | (simp only [List.length_drop, List.length_take]; rfl)) ?_; (with_reducible refine (galoisref01_DivMod.calls k1 x0_1 x1_1 t480 t481 _ A4.out).mono ?_); rintro e w5 ⟨rfl, hb⟩; refine ⟨_, rfl, ?_⟩; have n0_ := Aside0.mk (below_step (by repeat (first | (with_reducible first | exact HB.out | apply below_alloc | apply pw_below_drewN | apply below_drew1) | exact HB.out)) hb); clear HB; have HB := n0_; clear n0_; (try clear hb); (try clear hb2); (try clear hk); (try clear hi)))
    go_roundg k1
    case measure => have := HK1.out; omega
    case rel => exact ⟨(x1_1), (t481), (by first | rfl | (simp; done) | (simp [*]; done)), (by first | rfl | (simp; done) | (simp [*]; done)), H', ⟨by have := HK1.out; omega⟩, ⟨by repeat (first | (with_reducible first | exact HB.out | apply below_alloc | apply pw_below_drewN | apply below_drew1) | exact HB.out)⟩⟩
def galoislaw01_NaturalQuotients.j0 : Nat → ByteArray → ByteArray → Bool → Option (Bool)
 | 0, _, _, _ => none
 | k + 1, x0, x1, x20 => if x20 = true then ((galoislaw01_awake.f k).bind fun t484 => (some t484)) else ((natural_DivMod.f k x0 x1).bind fun bt485 => ((natural_Gcd.f k x0 x1).bind fun bt488 => ((galoislaw01_expected.f x0 x1).bind fun t490 => (if t490 = 0 then ((galoisref01_DivMod.f k x0 x1).bind fun bt492 => (if x1.toList = ([] : List UInt8) then (if bt485.1.toList = bt492.1.toList then (if bt485.2.1.toList = bt492.2.toList then (if bt485.2.2 = 6 then ((galoisref01_Gcd.f k x0 x1).bind fun t494 => ((galoislaw01_right.f bt488.1 bt488.2 0 t494).bind fun t495 => (some t495))) else (some false)) else (some false)) else (some false)) else (if bt485.1.toList = bt492.1.toList then (if bt485.2.1.toList = bt492.2.toList then (if bt485.2.2 = 0 then ((galoisref01_Gcd.f k x0 x1).bind fun t496 => ((galoislaw01_right.f bt488.1 bt488.2 0 t496).bind fun t497 => (some t497))) else (some false)) else (some false)) else (some false)))) else (if bt485.1.toList = ([] : List UInt8) then (if bt485.2.1.toList = ([] : List UInt8) then (if bt485.2.2 = t490 then ((galoislaw01_right.f bt488.1 bt488.2 t490 (⟨#[]⟩ : ByteArray)).bind fun t491 => (some t491)) else (some false)) else (some false)) else (some false))))))
def galoislaw01_NaturalQuotients.f (k : Nat) (a0 : ByteArray) (a1 : ByteArray) : Option (Bool) := (galoislaw01_awake.f k).bind fun t482 => (if t482 = true then ((galoislaw01_long.f a0 a1 300).bind fun t483 => (galoislaw01_NaturalQuotients.j0 k a0 a1 t483)) else (galoislaw01_NaturalQuotients.j0 k a0 a1 true))
theorem galoislaw01_NaturalQuotients.mono_l : ∀ k, (∀ y0 y1 y2, LeO (galoislaw01_NaturalQuotients.j0 k y0 y1 y2) (galoislaw01_NaturalQuotients.j0 (k + 1) y0 y1 y2))
 | 0 => fun _ _ _ r h => by simp [galoislaw01_NaturalQuotients.j0] at h
 | k + 1 => by
  have ih0 := galoislaw01_NaturalQuotients.mono_l k
  ·intro y0 y1 y2
   unfold galoislaw01_NaturalQuotients.j0
   repeat' first
   | (with_reducible exact ih0 _ _ _)
   | (with_reducible exact galoislaw01_awake.mono _)
   | (with_reducible exact galoisref01_DivMod.mono _ _ _)
   | (with_reducible exact galoisref01_Gcd.mono _ _ _)
   | (with_reducible exact natural_DivMod.mono _ _ _)
   | (with_reducible exact natural_Gcd.mono _ _ _)
   | (with_reducible exact LeO.refl _)
   | (with_reducible exact LeO.none _)
   | (with_reducible refine LeO.ite ?_ ?_)
   | (with_reducible refine LeO.bind ?_ (fun _ => ?_))
   | exact ih0 _ _ _
   | exact galoislaw01_awake.mono _
   | exact galoisref01_DivMod.mono _ _ _
   | exact galoisref01_Gcd.mono _ _ _
   | exact natural_DivMod.mono _ _ _
   | exact natural_Gcd.mono _ _ _
   | exact LeO.none _
   | refine LeO.ite ?_ ?_
   | refine LeO.bind ?_ (fun _ => ?_)
theorem galoislaw01_NaturalQuotients.mono : ∀ a0 a1 k, LeO (galoislaw01_NaturalQuotients.f k a0 a1) (galoislaw01_NaturalQuotients.f (k + 1) a0 a1) := by
 intro a0 a1 k
 have ih0 := galoislaw01_NaturalQuotients.mono_l k
 unfold galoislaw01_NaturalQuotients.f
 repeat' first
   | (with_reducible exact ih0 _ _ _)
   | (with_reducible exact galoislaw01_awake.mono _)
   | (with_reducible exact galoisref01_DivMod.mono _ _ _)
   | (with_reducible exact galoisref01_Gcd.mono _ _ _)
   | (with_reducible exact natural_DivMod.mono _ _ _)
   | (with_reducible exact natural_Gcd.mono _ _ _)
   | (with_reducible exact LeO.refl _)
   | (with_reducible exact LeO.none _)
   | (with_reducible refine LeO.ite ?_ ?_)
   | (with_reducible refine LeO.bind ?_ (fun _ => ?_))
   | exact ih0 _ _ _
   | exact galoislaw01_awake.mono _
   | exact galoisref01_DivMod.mono _ _ _
   | exact galoisref01_Gcd.mono _ _ _
   | exact natural_DivMod.mono _ _ _
   | exact natural_Gcd.mono _ _ _
   | exact LeO.none _
   | refine LeO.ite ?_ ?_
   | refine LeO.bind ?_ (fun _ => ?_)
set_option maxHeartbeats 8000000 in
set_option maxRecDepth 100000 in
theorem galoislaw01_NaturalQuotients.calls (k : Nat) (a0 : ByteArray) (a1 : ByteArray) (r : Bool) (w : World) (h : galoislaw01_NaturalQuotients.f k a0 a1 = some r) :
  Calls Try.prog 3 #[.string a0, .string a1] w fun e w' => e = .returned (.bool r) ∧ Below w.heap.size w w' := by
 have HB := Aside0.mk (Below.refl w.heap.size w)
 have H : ((galoislaw01_awake.f k).bind fun t482 => (if t482 = true then ((galoislaw01_long.f a0 a1 300).bind fun t483 => (galoislaw01_NaturalQuotients.j0 k a0 a1 t483)) else (galoislaw01_NaturalQuotients.j0 k a0 a1 true))) = some r := h
 clear h
 have HC3 := Aside0.mk H
 clear H
 go_enter Try.func3, Try.ntmps3
 go_upto_region 1 with (fail)
 go_cut [20] (fun v20 wc => ∃ (kq : Nat) (x20_2 : Bool), v20 = .bool x20_2 ∧ Aside0 (galoislaw01_NaturalQuotients.j0 kq a0 a1 x20_2 = some r) ∧ Aside0 (kq ≤ k) ∧ Aside0 (Below w.heap.size w wc))
 case first =>
  have H := HC3.out
  clear HC3
  replace H := Option.bind_eq_some_iff.mp H
  obtain ⟨t482, A40, H⟩ := H
  replace H : (if t482 = true then ((galoislaw01_long.f a0 a1 300).bind fun t483 => (galoislaw01_NaturalQuotients.j0 k a0 a1 t483)) else (galoislaw01_NaturalQuotients.j0 k a0 a1 true)) = some r := H
  have A4 := Aside0.mk A40
  clear A40
  by_cases c5 : t482 = true
  ·subst c5
   have H1 : ((galoislaw01_long.f a0 a1 300).bind fun t483 => (galoislaw01_NaturalQuotients.j0 k a0 a1 t483)) = some r := by rw [if_pos rfl] at H; exact H
   clear H
   have H := H1
   clear H1
   replace H := Option.bind_eq_some_iff.mp H
   obtain ⟨t483, A60, H⟩ := H
   replace H : (galoislaw01_NaturalQuotients.j0 k a0 a1 t483) = some r := H
   have A6 := Aside0.mk A60
   clear A60
   have H' := Aside0.mk H
   clear H
   go_wp2_with (first | ((with_reducible refine gate_callee (f := 12) rfl ?_); refine goesL_ (some 14) rfl rfl Try.func12 (by kernel_rfl) rfl #[] rfl (by (try simp only [List.map_toArray, List.map_cons, List.map_nil]); first | done | rfl | (simp only [List.length_drop, List.length_take]; rfl)) ?_; (with_reducible refine (galoislaw01_awake.calls k  true _ A4.out).mono ?_); rintro e w7 ⟨rfl, hb⟩; refine ⟨_, rfl, ?_⟩; have n0_ := Aside0.mk (below_step (by repeat (first | (with_reducible first | exact HB.out | apply below_alloc | apply pw_below_drewN | apply below_drew1) | exact HB.out)) hb); clear HB; have HB := n0_; clear n0_; (try clear hb); (try clear hb2); (try clear hk); (try clear hi)) | (go_at_call 13; (with_reducible refine (galoislaw01_long.calls a0 a1 300 t483 _ A6.out).mono ?_); rintro e w' ⟨rfl, ⟨nd, rfl⟩⟩))
   go_meet
   case rel => exact ⟨_, (t483), (by first | rfl | (simp; done) | (simp [*]; done)), H', ⟨by first | omega | exact Nat.le_refl _⟩, ⟨by repeat (first | (with_reducible first | exact HB.out | apply below_alloc | apply pw_below_drewN | apply below_drew1) | exact HB.out)⟩⟩
  ·replace c5 := Bool.eq_false_iff.mpr c5
   subst c5
   have H1 : (galoislaw01_NaturalQuotients.j0 k a0 a1 true) = some r := by rw [if_neg (show ¬ (false = true) by decide)] at H; exact H
   clear H
   have H := H1
   clear H1
   have H' := Aside0.mk H
   clear H
   go_wp2_with (first | ((with_reducible refine gate_callee (f := 12) rfl ?_); refine goesL_ (some 14) rfl rfl Try.func12 (by kernel_rfl) rfl #[] rfl (by (try simp only [List.map_toArray, List.map_cons, List.map_nil]); first | done | rfl | (simp only [List.length_drop, List.length_take]; rfl)) ?_; (with_reducible refine (galoislaw01_awake.calls k  false _ A4.out).mono ?_); rintro e w8 ⟨rfl, hb⟩; refine ⟨_, rfl, ?_⟩; have n0_ := Aside0.mk (below_step (by repeat (first | (with_reducible first | exact HB.out | apply below_alloc | apply pw_below_drewN | apply below_drew1) | exact HB.out)) hb); clear HB; have HB := n0_; clear n0_; (try clear hb); (try clear hb2); (try clear hk); (try clear hi)))
   go_meet
   case rel => exact ⟨_, (true), (by first | rfl | (simp; done) | (simp [*]; done)), H', ⟨by first | omega | exact Nat.le_refl _⟩, ⟨by repeat (first | (with_reducible first | exact HB.out | apply below_alloc | apply pw_below_drewN | apply below_drew1) | exact HB.out)⟩⟩
 case rest =>
  clear HC3
  try clear c1
  try clear p2
  try clear c3
  try clear c5
  obtain ⟨kq, x20_2, rfl, HA, HJ2, HB⟩ := hcut
  cases kq with
  | zero => exact absurd HA.out (by simp [galoislaw01_NaturalQuotients.j0])
  | succ kj2 =>
   have H := HA.out
   clear HA
   simp only [galoislaw01_NaturalQuotients.j0] at H
   by_cases c9 : x20_2 = true
   ·subst c9
    have H1 : ((galoislaw01_awake.f kj2).bind fun t484 => (some t484)) = some r := by rw [if_pos rfl] at H; exact H
    clear H
    have H := H1
    clear H1
    replace H := Option.bind_eq_some_iff.mp H
    obtain ⟨t484, A100, H⟩ := H
    replace H : (some t484) = some r := H
    have A10 := Aside0.mk A100
    clear A100
    obtain rfl := Option.some.inj H
    go_wp2_with (first | ((with_reducible refine gate_callee (f := 12) rfl ?_); refine goesL_ (some 21) rfl rfl Try.func12 (by kernel_rfl) rfl #[] rfl (by (try simp only [List.map_toArray, List.map_cons, List.map_nil]); first | done | rfl | (simp only [List.length_drop, List.length_take]; rfl)) ?_; (with_reducible refine (galoislaw01_awake.calls kj2  t484 _ A10.out).mono ?_); rintro e w11 ⟨rfl, hb⟩; refine ⟨_, rfl, ?_⟩; have n0_ := Aside0.mk (below_step (by repeat (first | (with_reducible first | exact HB.out | apply below_alloc | apply pw_below_drewN | apply below_drew1) | exact HB.out)) hb); clear HB; have HB := n0_; clear n0_; (try clear hb); (try clear hb2); (try clear hk); (try clear hi)))
    go_ret
    exact ⟨by first | rfl | (simp [errW_none, errW_some] <;> rfl) | (simp [*, errW_none, errW_some] <;> rfl), by repeat (first | (with_reducible first | exact HB.out | apply below_alloc | apply pw_below_drewN | apply below_drew1) | exact HB.out)⟩
   ·replace c9 := Bool.eq_false_iff.mpr c9
    subst c9
    have H1 : ((natural_DivMod.f kj2 a0 a1).bind fun bt485 => ((natural_Gcd.f kj2 a0 a1).bind fun bt488 => ((galoislaw01_expected.f a0 a1).bind fun t490 => (if t490 = 0 then ((galoisref01_DivMod.f kj2 a0 a1).bind fun bt492 => (if a1.toList = ([] : List UInt8) then (if bt485.1.toList = bt492.1.toList then (if bt485.2.1.toList = bt492.2.toList then (if bt485.2.2 = 6 then ((galoisref01_Gcd.f kj2 a0 a1).bind fun t494 => ((galoislaw01_right.f bt488.1 bt488.2 0 t494).bind fun t495 => (some t495))) else (some false)) else (some false)) else (some false)) else (if bt485.1.toList = bt492.1.toList then (if bt485.2.1.toList = bt492.2.toList then (if bt485.2.2 = 0 then ((galoisref01_Gcd.f kj2 a0 a1).bind fun t496 => ((galoislaw01_right.f bt488.1 bt488.2 0 t496).bind fun t497 => (some t497))) else (some false)) else (some false)) else (some false)))) else (if bt485.1.toList = ([] : List UInt8) then (if bt485.2.1.toList = ([] : List UInt8) then (if bt485.2.2 = t490 then ((galoislaw01_right.f bt488.1 bt488.2 t490 (⟨#[]⟩ : ByteArray)).bind fun t491 => (some t491)) else (some false)) else (some false)) else (some false)))))) = some r := by rw [if_neg (show ¬ (false = true) by decide)] at H; exact H
    clear H
    have H := H1
    clear H1
    replace H := Option.bind_eq_some_iff.mp H
    obtain ⟨⟨t485, t486, t487⟩, A120, H⟩ := H
    replace H : ((natural_Gcd.f kj2 a0 a1).bind fun bt488 => ((galoislaw01_expected.f a0 a1).bind fun t490 => (if t490 = 0 then ((galoisref01_DivMod.f kj2 a0 a1).bind fun bt492 => (if a1.toList = ([] : List UInt8) then (if t485.toList = bt492.1.toList then (if t486.toList = bt492.2.toList then (if t487 = 6 then ((galoisref01_Gcd.f kj2 a0 a1).bind fun t494 => ((galoislaw01_right.f bt488.1 bt488.2 0 t494).bind fun t495 => (some t495))) else (some false)) else (some false)) else (some false)) else (if t485.toList = bt492.1.toList then (if t486.toList = bt492.2.toList then (if t487 = 0 then ((galoisref01_Gcd.f kj2 a0 a1).bind fun t496 => ((galoislaw01_right.f bt488.1 bt488.2 0 t496).bind fun t497 => (some t497))) else (some false)) else (some false)) else (some false)))) else (if t485.toList = ([] : List UInt8) then (if t486.toList = ([] : List UInt8) then (if t487 = t490 then ((galoislaw01_right.f bt488.1 bt488.2 t490 (⟨#[]⟩ : ByteArray)).bind fun t491 => (some t491)) else (some false)) else (some false)) else (some false))))) = some r := H
    have A12 := Aside0.mk A120
    clear A120
    replace H := Option.bind_eq_some_iff.mp H
    obtain ⟨⟨t488, t489⟩, A130, H⟩ := H
    replace H : ((galoislaw01_expected.f a0 a1).bind fun t490 => (if t490 = 0 then ((galoisref01_DivMod.f kj2 a0 a1).bind fun bt492 => (if a1.toList = ([] : List UInt8) then (if t485.toList = bt492.1.toList then (if t486.toList = bt492.2.toList then (if t487 = 6 then ((galoisref01_Gcd.f kj2 a0 a1).bind fun t494 => ((galoislaw01_right.f t488 t489 0 t494).bind fun t495 => (some t495))) else (some false)) else (some false)) else (some false)) else (if t485.toList = bt492.1.toList then (if t486.toList = bt492.2.toList then (if t487 = 0 then ((galoisref01_Gcd.f kj2 a0 a1).bind fun t496 => ((galoislaw01_right.f t488 t489 0 t496).bind fun t497 => (some t497))) else (some false)) else (some false)) else (some false)))) else (if t485.toList = ([] : List UInt8) then (if t486.toList = ([] : List UInt8) then (if t487 = t490 then ((galoislaw01_right.f t488 t489 t490 (⟨#[]⟩ : ByteArray)).bind fun t491 => (some t491)) else (some false)) else (some false)) else (some false)))) = some r := H
    have A13 := Aside0.mk A130
    clear A130
    replace H := Option.bind_eq_some_iff.mp H
    obtain ⟨t490, A140, H⟩ := H
    replace H : (if t490 = 0 then ((galoisref01_DivMod.f kj2 a0 a1).bind fun bt492 => (if a1.toList = ([] : List UInt8) then (if t485.toList = bt492.1.toList then (if t486.toList = bt492.2.toList then (if t487 = 6 then ((galoisref01_Gcd.f kj2 a0 a1).bind fun t494 => ((galoislaw01_right.f t488 t489 0 t494).bind fun t495 => (some t495))) else (some false)) else (some false)) else (some false)) else (if t485.toList = bt492.1.toList then (if t486.toList = bt492.2.toList then (if t487 = 0 then ((galoisref01_Gcd.f kj2 a0 a1).bind fun t496 => ((galoislaw01_right.f t488 t489 0 t496).bind fun t497 => (some t497))) else (some false)) else (some false)) else (some false)))) else (if t485.toList = ([] : List UInt8) then (if t486.toList = ([] : List UInt8) then (if t487 = t490 then ((galoislaw01_right.f t488 t489 t490 (⟨#[]⟩ : ByteArray)).bind fun t491 => (some t491)) else (some false)) else (some false)) else (some false))) = some r := H
    have A14 := Aside0.mk A140
    clear A140
    by_cases c15 : t490 = 0
    ·rw [if_pos c15] at H
     have c15b0 : (t490 == 0) = true := beq_iff_eq.mpr c15
     have c15b1 : (t490 != 0) = false := bne_eq_false_iff_eq.mpr c15
     clear c15
     replace H := Option.bind_eq_some_iff.mp H
     obtain ⟨⟨t492, t493⟩, A160, H⟩ := H
     replace H : (if a1.toList = ([] : List UInt8) then (if t485.toList = t492.toList then (if t486.toList = t493.toList then (if t487 = 6 then ((galoisref01_Gcd.f kj2 a0 a1).bind fun t494 => ((galoislaw01_right.f t488 t489 0 t494).bind fun t495 => (some t495))) else (some false)) else (some false)) else (some false)) else (if t485.toList = t492.toList then (if t486.toList = t493.toList then (if t487 = 0 then ((galoisref01_Gcd.f kj2 a0 a1).bind fun t496 => ((galoislaw01_right.f t488 t489 0 t496).bind fun t497 => (some t497))) else (some false)) else (some false)) else (some false))) = some r := H
     have A16 := Aside0.mk A160
     clear A160
     by_cases c17 : a1.toList = ([] : List UInt8)
     ·rw [if_pos c17] at H
      have c17b0 : (a1.toList == ([] : List UInt8)) = true := beq_iff_eq.mpr c17
      have c17b1 : (a1.toList != ([] : List UInt8)) = false := bne_eq_false_iff_eq.mpr c17
      clear c17
      by_cases c18 : t485.toList = t492.toList
      ·rw [if_pos c18] at H
       have c18b0 : (t485.toList == t492.toList) = true := beq_iff_eq.mpr c18
       have c18b1 : (t485.toList != t492.toList) = false := bne_eq_false_iff_eq.mpr c18
       clear c18
       by_cases c19 : t486.toList = t493.toList
       ·rw [if_pos c19] at H
        have c19b0 : (t486.toList == t493.toList) = true := beq_iff_eq.mpr c19
        have c19b1 : (t486.toList != t493.toList) = false := bne_eq_false_iff_eq.mpr c19
        clear c19
        by_cases c20 : t487 = 6
        ·rw [if_pos c20] at H
         have c20b0 : (t487 == 6) = true := beq_iff_eq.mpr c20
         have c20b1 : (t487 != 6) = false := bne_eq_false_iff_eq.mpr c20
         clear c20
         replace H := Option.bind_eq_some_iff.mp H
         obtain ⟨t494, A210, H⟩ := H
         replace H : ((galoislaw01_right.f t488 t489 0 t494).bind fun t495 => (some t495)) = some r := H
         have A21 := Aside0.mk A210
         clear A210
         replace H := Option.bind_eq_some_iff.mp H
         obtain ⟨t495, A220, H⟩ := H
         replace H : (some t495) = some r := H
         have A22 := Aside0.mk A220
         clear A220
         obtain rfl := Option.some.inj H
         go_wp2_with (first | ((with_reducible refine gate_callee (f := 14) rfl ?_); refine goesL_ (some 25) rfl rfl Try.func14 (by kernel_rfl) rfl #[.string a0, .string a1] rfl (by (try simp only [List.map_toArray, List.map_cons, List.map_nil]); first | done | rfl | (simp only [List.length_drop, List.length_take]; rfl)) ?_; (with_reducible refine (natural_DivMod.calls kj2 a0 a1 t485 t486 t487 _ A12.out).mono ?_); rintro e w23 ⟨rfl, hb⟩; refine ⟨_, rfl, ?_⟩; have n0_ := Aside0.mk (below_step (by repeat (first | (with_reducible first | exact HB.out | apply below_alloc | apply pw_below_drewN | apply below_drew1) | exact HB.out)) hb); clear HB; have HB := n0_; clear n0_; (try clear hb); (try clear hb2); (try clear hk); (try clear hi)) | ((with_reducible refine gate_callee (f := 15) rfl ?_); refine goesL_ (some 32) rfl rfl Try.func15 (by kernel_rfl) rfl #[.string a0, .string a1] rfl (by (try simp only [List.map_toArray, List.map_cons, List.map_nil]); first | done | rfl | (simp only [List.length_drop, List.length_take]; rfl)) ?_; (with_reducible refine (natural_Gcd.calls kj2 a0 a1 t488 t489 _ A13.out).mono ?_); rintro e w24 ⟨rfl, hb⟩; refine ⟨_, rfl, ?_⟩; have n0_ := Aside0.mk (below_step (by repeat (first | (with_reducible first | exact HB.out | apply below_alloc | apply pw_below_drewN | apply below_drew1) | exact HB.out)) hb); clear HB; have HB := n0_; clear n0_; (try clear hb); (try clear hb2); (try clear hk); (try clear hi)) | ((with_reducible refine gate_callee (f := 16) rfl ?_); refine goesL_ (some 37) rfl rfl Try.func16 (by kernel_rfl) rfl #[.string a0, .string a1] rfl (by (try simp only [List.map_toArray, List.map_cons, List.map_nil]); first | done | rfl | (simp only [List.length_drop, List.length_take]; rfl)) ?_; (with_reducible refine (galoislaw01_expected.calls a0 a1 t490 _ A14.out).mono ?_); rintro e w' ⟨rfl, ⟨nd, rfl⟩⟩; refine ⟨_, rfl, ?_⟩) | ((with_reducible refine gate_callee (f := 18) rfl ?_); refine goesL_ (some 60) rfl rfl Try.func18 (by kernel_rfl) rfl #[.string a0, .string a1] rfl (by (try simp only [List.map_toArray, List.map_cons, List.map_nil]); first | done | rfl | (simp only [List.length_drop, List.length_take]; rfl)) ?_; (with_reducible refine (galoisref01_DivMod.calls kj2 a0 a1 t492 t493 _ A16.out).mono ?_); rintro e w25 ⟨rfl, hb⟩; refine ⟨_, rfl, ?_⟩; have n0_ := Aside0.mk (below_step (by repeat (first | (with_reducible first | exact HB.out | apply below_alloc | apply pw_below_drewN | apply below_drew1) | exact HB.out)) hb); clear HB; have HB := n0_; clear n0_; (try clear hb); (try clear hb2); (try clear hk); (try clear hi)) | (go_at_call 19; (with_reducible refine (galoisref01_Gcd.calls kj2 a0 a1 t494 _ A21.out).mono ?_); rintro e w26 ⟨rfl, hb⟩; have n0_ := Aside0.mk (below_step (by repeat (first | (with_reducible first | exact HB.out | apply below_alloc | apply pw_below_drewN | apply below_drew1) | exact HB.out)) hb); clear HB; have HB := n0_; clear n0_; (try clear hb); (try clear hb2); (try clear hk); (try clear hi)) | (go_at_call 17; (with_reducible refine (galoislaw01_right.calls t488 t489 0 t494 t495 _ A22.out).mono ?_); rintro e w' ⟨rfl, ⟨nd, rfl⟩⟩))
         go_ret
         exact ⟨by first | rfl | (simp [errW_none, errW_some] <;> rfl) | (simp [*, errW_none, errW_some] <;> rfl), by repeat (first | (with_reducible first | exact HB.out | apply below_alloc | apply pw_below_drewN | apply below_drew1) | exact HB.out)⟩
        ·rw [if_neg c20] at H
         have c20b0 : (t487 == 6) = false := beq_eq_false_iff_ne.mpr c20
         have c20b1 : (t487 != 6) = true := bne_iff_ne.mpr c20
         obtain rfl := Option.some.inj H
         go_wp2_with (first | ((with_reducible refine gate_callee (f := 14) rfl ?_); refine goesL_ (some 25) rfl rfl Try.func14 (by kernel_rfl) rfl #[.string a0, .string a1] rfl (by (try simp only [List.map_toArray, List.map_cons, List.map_nil]); first | done | rfl | (simp only [List.length_drop, List.length_take]; rfl)) ?_; (with_reducible refine (natural_DivMod.calls kj2 a0 a1 t485 t486 t487 _ A12.out).mono ?_); rintro e w27 ⟨rfl, hb⟩; refine ⟨_, rfl, ?_⟩; have n0_ := Aside0.mk (below_step (by repeat (first | (with_reducible first | exact HB.out | apply below_alloc | apply pw_below_drewN | apply below_drew1) | exact HB.out)) hb); clear HB; have HB := n0_; clear n0_; (try clear hb); (try clear hb2); (try clear hk); (try clear hi)) | ((with_reducible refine gate_callee (f := 15) rfl ?_); refine goesL_ (some 32) rfl rfl Try.func15 (by kernel_rfl) rfl #[.string a0, .string a1] rfl (by (try simp only [List.map_toArray, List.map_cons, List.map_nil]); first | done | rfl | (simp only [List.length_drop, List.length_take]; rfl)) ?_; (with_reducible refine (natural_Gcd.calls kj2 a0 a1 t488 t489 _ A13.out).mono ?_); rintro e w28 ⟨rfl, hb⟩; refine ⟨_, rfl, ?_⟩; have n0_ := Aside0.mk (below_step (by repeat (first | (with_reducible first | exact HB.out | apply below_alloc | apply pw_below_drewN | apply below_drew1) | exact HB.out)) hb); clear HB; have HB := n0_; clear n0_; (try clear hb); (try clear hb2); (try clear hk); (try clear hi)) | ((with_reducible refine gate_callee (f := 16) rfl ?_); refine goesL_ (some 37) rfl rfl Try.func16 (by kernel_rfl) rfl #[.string a0, .string a1] rfl (by (try simp only [List.map_toArray, List.map_cons, List.map_nil]); first | done | rfl | (simp only [List.length_drop, List.length_take]; rfl)) ?_; (with_reducible refine (galoislaw01_expected.calls a0 a1 t490 _ A14.out).mono ?_); rintro e w' ⟨rfl, ⟨nd, rfl⟩⟩; refine ⟨_, rfl, ?_⟩) | ((with_reducible refine gate_callee (f := 18) rfl ?_); refine goesL_ (some 60) rfl rfl Try.func18 (by kernel_rfl) rfl #[.string a0, .string a1] rfl (by (try simp only [List.map_toArray, List.map_cons, List.map_nil]); first | done | rfl | (simp only [List.length_drop, List.length_take]; rfl)) ?_; (with_reducible refine (galoisref01_DivMod.calls kj2 a0 a1 t492 t493 _ A16.out).mono ?_); rintro e w29 ⟨rfl, hb⟩; refine ⟨_, rfl, ?_⟩; have n0_ := Aside0.mk (below_step (by repeat (first | (with_reducible first | exact HB.out | apply below_alloc | apply pw_below_drewN | apply below_drew1) | exact HB.out)) hb); clear HB; have HB := n0_; clear n0_; (try clear hb); (try clear hb2); (try clear hk); (try clear hi)))
         go_ret
         exact ⟨by first | rfl | (simp [errW_none, errW_some] <;> rfl) | (simp [*, errW_none, errW_some] <;> rfl), by repeat (first | (with_reducible first | exact HB.out | apply below_alloc | apply pw_below_drewN | apply below_drew1) | exact HB.out)⟩
       ·rw [if_neg c19] at H
        have c19b0 : (t486.toList == t493.toList) = false := beq_eq_false_iff_ne.mpr c19
        have c19b1 : (t486.toList != t493.toList) = true := bne_iff_ne.mpr c19
        obtain rfl := Option.some.inj H
        go_wp2_with (first | ((with_reducible refine gate_callee (f := 14) rfl ?_); refine goesL_ (some 25) rfl rfl Try.func14 (by kernel_rfl) rfl #[.string a0, .string a1] rfl (by (try simp only [List.map_toArray, List.map_cons, List.map_nil]); first | done | rfl | (simp only [List.length_drop, List.length_take]; rfl)) ?_; (with_reducible refine (natural_DivMod.calls kj2 a0 a1 t485 t486 t487 _ A12.out).mono ?_); rintro e w30 ⟨rfl, hb⟩; refine ⟨_, rfl, ?_⟩; have n0_ := Aside0.mk (below_step (by repeat (first | (with_reducible first | exact HB.out | apply below_alloc | apply pw_below_drewN | apply below_drew1) | exact HB.out)) hb); clear HB; have HB := n0_; clear n0_; (try clear hb); (try clear hb2); (try clear hk); (try clear hi)) | ((with_reducible refine gate_callee (f := 15) rfl ?_); refine goesL_ (some 32) rfl rfl Try.func15 (by kernel_rfl) rfl #[.string a0, .string a1] rfl (by (try simp only [List.map_toArray, List.map_cons, List.map_nil]); first | done | rfl | (simp only [List.length_drop, List.length_take]; rfl)) ?_; (with_reducible refine (natural_Gcd.calls kj2 a0 a1 t488 t489 _ A13.out).mono ?_); rintro e w31 ⟨rfl, hb⟩; refine ⟨_, rfl, ?_⟩; have n0_ := Aside0.mk (below_step (by repeat (first | (with_reducible first | exact HB.out | apply below_alloc | apply pw_below_drewN | apply below_drew1) | exact HB.out)) hb); clear HB; have HB := n0_; clear n0_; (try clear hb); (try clear hb2); (try clear hk); (try clear hi)) | ((with_reducible refine gate_callee (f := 16) rfl ?_); refine goesL_ (some 37) rfl rfl Try.func16 (by kernel_rfl) rfl #[.string a0, .string a1] rfl (by (try simp only [List.map_toArray, List.map_cons, List.map_nil]); first | done | rfl | (simp only [List.length_drop, List.length_take]; rfl)) ?_; (with_reducible refine (galoislaw01_expected.calls a0 a1 t490 _ A14.out).mono ?_); rintro e w' ⟨rfl, ⟨nd, rfl⟩⟩; refine ⟨_, rfl, ?_⟩) | ((with_reducible refine gate_callee (f := 18) rfl ?_); refine goesL_ (some 60) rfl rfl Try.func18 (by kernel_rfl) rfl #[.string a0, .string a1] rfl (by (try simp only [List.map_toArray, List.map_cons, List.map_nil]); first | done | rfl | (simp only [List.length_drop, List.length_take]; rfl)) ?_; (with_reducible refine (galoisref01_DivMod.calls kj2 a0 a1 t492 t493 _ A16.out).mono ?_); rintro e w32 ⟨rfl, hb⟩; refine ⟨_, rfl, ?_⟩; have n0_ := Aside0.mk (below_step (by repeat (first | (with_reducible first | exact HB.out | apply below_alloc | apply pw_below_drewN | apply below_drew1) | exact HB.out)) hb); clear HB; have HB := n0_; clear n0_; (try clear hb); (try clear hb2); (try clear hk); (try clear hi)))
        go_ret
        exact ⟨by first | rfl | (simp [errW_none, errW_some] <;> rfl) | (simp [*, errW_none, errW_some] <;> rfl), by repeat (first | (with_reducible first | exact HB.out | apply below_alloc | apply pw_below_drewN | apply below_drew1) | exact HB.out)⟩
      ·rw [if_neg c18] at H
       have c18b0 : (t485.toList == t492.toList) = false := beq_eq_false_iff_ne.mpr c18
       have c18b1 : (t485.toList != t492.toList) = true := bne_iff_ne.mpr c18
       obtain rfl := Option.some.inj H
       go_wp2_with (first | ((with_reducible refine gate_callee (f := 14) rfl ?_); refine goesL_ (some 25) rfl rfl Try.func14 (by kernel_rfl) rfl #[.string a0, .string a1] rfl (by (try simp only [List.map_toArray, List.map_cons, List.map_nil]); first | done | rfl | (simp only [List.length_drop, List.length_take]; rfl)) ?_; (with_reducible refine (natural_DivMod.calls kj2 a0 a1 t485 t486 t487 _ A12.out).mono ?_); rintro e w33 ⟨rfl, hb⟩; refine ⟨_, rfl, ?_⟩; have n0_ := Aside0.mk (below_step (by repeat (first | (with_reducible first | exact HB.out | apply below_alloc | apply pw_below_drewN | apply below_drew1) | exact HB.out)) hb); clear HB; have HB := n0_; clear n0_; (try clear hb); (try clear hb2); (try clear hk); (try clear hi)) | ((with_reducible refine gate_callee (f := 15) rfl ?_); refine goesL_ (some 32) rfl rfl Try.func15 (by kernel_rfl) rfl #[.string a0, .string a1] rfl (by (try simp only [List.map_toArray, List.map_cons, List.map_nil]); first | done | rfl | (simp only [List.length_drop, List.length_take]; rfl)) ?_; (with_reducible refine (natural_Gcd.calls kj2 a0 a1 t488 t489 _ A13.out).mono ?_); rintro e w34 ⟨rfl, hb⟩; refine ⟨_, rfl, ?_⟩; have n0_ := Aside0.mk (below_step (by repeat (first | (with_reducible first | exact HB.out | apply below_alloc | apply pw_below_drewN | apply below_drew1) | exact HB.out)) hb); clear HB; have HB := n0_; clear n0_; (try clear hb); (try clear hb2); (try clear hk); (try clear hi)) | ((with_reducible refine gate_callee (f := 16) rfl ?_); refine goesL_ (some 37) rfl rfl Try.func16 (by kernel_rfl) rfl #[.string a0, .string a1] rfl (by (try simp only [List.map_toArray, List.map_cons, List.map_nil]); first | done | rfl | (simp only [List.length_drop, List.length_take]; rfl)) ?_; (with_reducible refine (galoislaw01_expected.calls a0 a1 t490 _ A14.out).mono ?_); rintro e w' ⟨rfl, ⟨nd, rfl⟩⟩; refine ⟨_, rfl, ?_⟩) | ((with_reducible refine gate_callee (f := 18) rfl ?_); refine goesL_ (some 60) rfl rfl Try.func18 (by kernel_rfl) rfl #[.string a0, .string a1] rfl (by (try simp only [List.map_toArray, List.map_cons, List.map_nil]); first | done | rfl | (simp only [List.length_drop, List.length_take]; rfl)) ?_; (with_reducible refine (galoisref01_DivMod.calls kj2 a0 a1 t492 t493 _ A16.out).mono ?_); rintro e w35 ⟨rfl, hb⟩; refine ⟨_, rfl, ?_⟩; have n0_ := Aside0.mk (below_step (by repeat (first | (with_reducible first | exact HB.out | apply below_alloc | apply pw_below_drewN | apply below_drew1) | exact HB.out)) hb); clear HB; have HB := n0_; clear n0_; (try clear hb); (try clear hb2); (try clear hk); (try clear hi)))
       go_ret
       exact ⟨by first | rfl | (simp [errW_none, errW_some] <;> rfl) | (simp [*, errW_none, errW_some] <;> rfl), by repeat (first | (with_reducible first | exact HB.out | apply below_alloc | apply pw_below_drewN | apply below_drew1) | exact HB.out)⟩
     ·rw [if_neg c17] at H
      have c17b0 : (a1.toList == ([] : List UInt8)) = false := beq_eq_false_iff_ne.mpr c17
      have c17b1 : (a1.toList != ([] : List UInt8)) = true := bne_iff_ne.mpr c17
      by_cases c36 : t485.toList = t492.toList
      ·rw [if_pos c36] at H
       have c36b0 : (t485.toList == t492.toList) = true := beq_iff_eq.mpr c36
       have c36b1 : (t485.toList != t492.toList) = false := bne_eq_false_iff_eq.mpr c36
       clear c36
       by_cases c37 : t486.toList = t493.toList
       ·rw [if_pos c37] at H
        have c37b0 : (t486.toList == t493.toList) = true := beq_iff_eq.mpr c37
        have c37b1 : (t486.toList != t493.toList) = false := bne_eq_false_iff_eq.mpr c37
        clear c37
        by_cases c38 : t487 = 0
        ·rw [if_pos c38] at H
         have c38b0 : (t487 == 0) = true := beq_iff_eq.mpr c38
         have c38b1 : (t487 != 0) = false := bne_eq_false_iff_eq.mpr c38
         clear c38
         replace H := Option.bind_eq_some_iff.mp H
         obtain ⟨t496, A390, H⟩ := H
         replace H : ((galoislaw01_right.f t488 t489 0 t496).bind fun t497 => (some t497)) = some r := H
         have A39 := Aside0.mk A390
         clear A390
         replace H := Option.bind_eq_some_iff.mp H
         obtain ⟨t497, A400, H⟩ := H
         replace H : (some t497) = some r := H
         have A40 := Aside0.mk A400
         clear A400
         obtain rfl := Option.some.inj H
         go_wp2_with (first | ((with_reducible refine gate_callee (f := 14) rfl ?_); refine goesL_ (some 25) rfl rfl Try.func14 (by kernel_rfl) rfl #[.string a0, .string a1] rfl (by (try simp only [List.map_toArray, List.map_cons, List.map_nil]); first | done | rfl | (simp only [List.length_drop, List.length_take]; rfl)) ?_; (with_reducible refine (natural_DivMod.calls kj2 a0 a1 t485 t486 t487 _ A12.out).mono ?_); rintro e w41 ⟨rfl, hb⟩; refine ⟨_, rfl, ?_⟩; have n0_ := Aside0.mk (below_step (by repeat (first | (with_reducible first | exact HB.out | apply below_alloc | apply pw_below_drewN | apply below_drew1) | exact HB.out)) hb); clear HB; have HB := n0_; clear n0_; (try clear hb); (try clear hb2); (try clear hk); (try clear hi)) | ((with_reducible refine gate_callee (f := 15) rfl ?_); refine goesL_ (some 32) rfl rfl Try.func15 (by kernel_rfl) rfl #[.string a0, .string a1] rfl (by (try simp only [List.map_toArray, List.map_cons, List.map_nil]); first | done | rfl | (simp only [List.length_drop, List.length_take]; rfl)) ?_; (with_reducible refine (natural_Gcd.calls kj2 a0 a1 t488 t489 _ A13.out).mono ?_); rintro e w42 ⟨rfl, hb⟩; refine ⟨_, rfl, ?_⟩; have n0_ := Aside0.mk (below_step (by repeat (first | (with_reducible first | exact HB.out | apply below_alloc | apply pw_below_drewN | apply below_drew1) | exact HB.out)) hb); clear HB; have HB := n0_; clear n0_; (try clear hb); (try clear hb2); (try clear hk); (try clear hi)) | ((with_reducible refine gate_callee (f := 16) rfl ?_); refine goesL_ (some 37) rfl rfl Try.func16 (by kernel_rfl) rfl #[.string a0, .string a1] rfl (by (try simp only [List.map_toArray, List.map_cons, List.map_nil]); first | done | rfl | (simp only [List.length_drop, List.length_take]; rfl)) ?_; (with_reducible refine (galoislaw01_expected.calls a0 a1 t490 _ A14.out).mono ?_); rintro e w' ⟨rfl, ⟨nd, rfl⟩⟩; refine ⟨_, rfl, ?_⟩) | ((with_reducible refine gate_callee (f := 18) rfl ?_); refine goesL_ (some 60) rfl rfl Try.func18 (by kernel_rfl) rfl #[.string a0, .string a1] rfl (by (try simp only [List.map_toArray, List.map_cons, List.map_nil]); first | done | rfl | (simp only [List.length_drop, List.length_take]; rfl)) ?_; (with_reducible refine (galoisref01_DivMod.calls kj2 a0 a1 t492 t493 _ A16.out).mono ?_); rintro e w43 ⟨rfl, hb⟩; refine ⟨_, rfl, ?_⟩; have n0_ := Aside0.mk (below_step (by repeat (first | (with_reducible first | exact HB.out | apply below_alloc | apply pw_below_drewN | apply below_drew1) | exact HB.out)) hb); clear HB; have HB := n0_; clear n0_; (try clear hb); (try clear hb2); (try clear hk); (try clear hi)) | (go_at_call 19; (with_reducible refine (galoisref01_Gcd.calls kj2 a0 a1 t496 _ A39.out).mono ?_); rintro e w44 ⟨rfl, hb⟩; have n0_ := Aside0.mk (below_step (by repeat (first | (with_reducible first | exact HB.out | apply below_alloc | apply pw_below_drewN | apply below_drew1) | exact HB.out)) hb); clear HB; have HB := n0_; clear n0_; (try clear hb); (try clear hb2); (try clear hk); (try clear hi)) | (go_at_call 17; (with_reducible refine (galoislaw01_right.calls t488 t489 0 t496 t497 _ A40.out).mono ?_); rintro e w' ⟨rfl, ⟨nd, rfl⟩⟩))
         go_ret
         exact ⟨by first | rfl | (simp [errW_none, errW_some] <;> rfl) | (simp [*, errW_none, errW_some] <;> rfl), by repeat (first | (with_reducible first | exact HB.out | apply below_alloc | apply pw_below_drewN | apply below_drew1) | exact HB.out)⟩
        ·rw [if_neg c38] at H
         have c38b0 : (t487 == 0) = false := beq_eq_false_iff_ne.mpr c38
         have c38b1 : (t487 != 0) = true := bne_iff_ne.mpr c38
         obtain rfl := Option.some.inj H
         go_wp2_with (first | ((with_reducible refine gate_callee (f := 14) rfl ?_); refine goesL_ (some 25) rfl rfl Try.func14 (by kernel_rfl) rfl #[.string a0, .string a1] rfl (by (try simp only [List.map_toArray, List.map_cons, List.map_nil]); first | done | rfl | (simp only [List.length_drop, List.length_take]; rfl)) ?_; (with_reducible refine (natural_DivMod.calls kj2 a0 a1 t485 t486 t487 _ A12.out).mono ?_); rintro e w45 ⟨rfl, hb⟩; refine ⟨_, rfl, ?_⟩; have n0_ := Aside0.mk (below_step (by repeat (first | (with_reducible first | exact HB.out | apply below_alloc | apply pw_below_drewN | apply below_drew1) | exact HB.out)) hb); clear HB; have HB := n0_; clear n0_; (try clear hb); (try clear hb2); (try clear hk); (try clear hi)) | ((with_reducible refine gate_callee (f := 15) rfl ?_); refine goesL_ (some 32) rfl rfl Try.func15 (by kernel_rfl) rfl #[.string a0, .string a1] rfl (by (try simp only [List.map_toArray, List.map_cons, List.map_nil]); first | done | rfl | (simp only [List.length_drop, List.length_take]; rfl)) ?_; (with_reducible refine (natural_Gcd.calls kj2 a0 a1 t488 t489 _ A13.out).mono ?_); rintro e w46 ⟨rfl, hb⟩; refine ⟨_, rfl, ?_⟩; have n0_ := Aside0.mk (below_step (by repeat (first | (with_reducible first | exact HB.out | apply below_alloc | apply pw_below_drewN | apply below_drew1) | exact HB.out)) hb); clear HB; have HB := n0_; clear n0_; (try clear hb); (try clear hb2); (try clear hk); (try clear hi)) | ((with_reducible refine gate_callee (f := 16) rfl ?_); refine goesL_ (some 37) rfl rfl Try.func16 (by kernel_rfl) rfl #[.string a0, .string a1] rfl (by (try simp only [List.map_toArray, List.map_cons, List.map_nil]); first | done | rfl | (simp only [List.length_drop, List.length_take]; rfl)) ?_; (with_reducible refine (galoislaw01_expected.calls a0 a1 t490 _ A14.out).mono ?_); rintro e w' ⟨rfl, ⟨nd, rfl⟩⟩; refine ⟨_, rfl, ?_⟩) | ((with_reducible refine gate_callee (f := 18) rfl ?_); refine goesL_ (some 60) rfl rfl Try.func18 (by kernel_rfl) rfl #[.string a0, .string a1] rfl (by (try simp only [List.map_toArray, List.map_cons, List.map_nil]); first | done | rfl | (simp only [List.length_drop, List.length_take]; rfl)) ?_; (with_reducible refine (galoisref01_DivMod.calls kj2 a0 a1 t492 t493 _ A16.out).mono ?_); rintro e w47 ⟨rfl, hb⟩; refine ⟨_, rfl, ?_⟩; have n0_ := Aside0.mk (below_step (by repeat (first | (with_reducible first | exact HB.out | apply below_alloc | apply pw_below_drewN | apply below_drew1) | exact HB.out)) hb); clear HB; have HB := n0_; clear n0_; (try clear hb); (try clear hb2); (try clear hk); (try clear hi)))
         go_ret
         exact ⟨by first | rfl | (simp [errW_none, errW_some] <;> rfl) | (simp [*, errW_none, errW_some] <;> rfl), by repeat (first | (with_reducible first | exact HB.out | apply below_alloc | apply pw_below_drewN | apply below_drew1) | exact HB.out)⟩
       ·rw [if_neg c37] at H
        have c37b0 : (t486.toList == t493.toList) = false := beq_eq_false_iff_ne.mpr c37
        have c37b1 : (t486.toList != t493.toList) = true := bne_iff_ne.mpr c37
        obtain rfl := Option.some.inj H
        go_wp2_with (first | ((with_reducible refine gate_callee (f := 14) rfl ?_); refine goesL_ (some 25) rfl rfl Try.func14 (by kernel_rfl) rfl #[.string a0, .string a1] rfl (by (try simp only [List.map_toArray, List.map_cons, List.map_nil]); first | done | rfl | (simp only [List.length_drop, List.length_take]; rfl)) ?_; (with_reducible refine (natural_DivMod.calls kj2 a0 a1 t485 t486 t487 _ A12.out).mono ?_); rintro e w48 ⟨rfl, hb⟩; refine ⟨_, rfl, ?_⟩; have n0_ := Aside0.mk (below_step (by repeat (first | (with_reducible first | exact HB.out | apply below_alloc | apply pw_below_drewN | apply below_drew1) | exact HB.out)) hb); clear HB; have HB := n0_; clear n0_; (try clear hb); (try clear hb2); (try clear hk); (try clear hi)) | ((with_reducible refine gate_callee (f := 15) rfl ?_); refine goesL_ (some 32) rfl rfl Try.func15 (by kernel_rfl) rfl #[.string a0, .string a1] rfl (by (try simp only [List.map_toArray, List.map_cons, List.map_nil]); first | done | rfl | (simp only [List.length_drop, List.length_take]; rfl)) ?_; (with_reducible refine (natural_Gcd.calls kj2 a0 a1 t488 t489 _ A13.out).mono ?_); rintro e w49 ⟨rfl, hb⟩; refine ⟨_, rfl, ?_⟩; have n0_ := Aside0.mk (below_step (by repeat (first | (with_reducible first | exact HB.out | apply below_alloc | apply pw_below_drewN | apply below_drew1) | exact HB.out)) hb); clear HB; have HB := n0_; clear n0_; (try clear hb); (try clear hb2); (try clear hk); (try clear hi)) | ((with_reducible refine gate_callee (f := 16) rfl ?_); refine goesL_ (some 37) rfl rfl Try.func16 (by kernel_rfl) rfl #[.string a0, .string a1] rfl (by (try simp only [List.map_toArray, List.map_cons, List.map_nil]); first | done | rfl | (simp only [List.length_drop, List.length_take]; rfl)) ?_; (with_reducible refine (galoislaw01_expected.calls a0 a1 t490 _ A14.out).mono ?_); rintro e w' ⟨rfl, ⟨nd, rfl⟩⟩; refine ⟨_, rfl, ?_⟩) | ((with_reducible refine gate_callee (f := 18) rfl ?_); refine goesL_ (some 60) rfl rfl Try.func18 (by kernel_rfl) rfl #[.string a0, .string a1] rfl (by (try simp only [List.map_toArray, List.map_cons, List.map_nil]); first | done | rfl | (simp only [List.length_drop, List.length_take]; rfl)) ?_; (with_reducible refine (galoisref01_DivMod.calls kj2 a0 a1 t492 t493 _ A16.out).mono ?_); rintro e w50 ⟨rfl, hb⟩; refine ⟨_, rfl, ?_⟩; have n0_ := Aside0.mk (below_step (by repeat (first | (with_reducible first | exact HB.out | apply below_alloc | apply pw_below_drewN | apply below_drew1) | exact HB.out)) hb); clear HB; have HB := n0_; clear n0_; (try clear hb); (try clear hb2); (try clear hk); (try clear hi)))
        go_ret
        exact ⟨by first | rfl | (simp [errW_none, errW_some] <;> rfl) | (simp [*, errW_none, errW_some] <;> rfl), by repeat (first | (with_reducible first | exact HB.out | apply below_alloc | apply pw_below_drewN | apply below_drew1) | exact HB.out)⟩
      ·rw [if_neg c36] at H
       have c36b0 : (t485.toList == t492.toList) = false := beq_eq_false_iff_ne.mpr c36
       have c36b1 : (t485.toList != t492.toList) = true := bne_iff_ne.mpr c36
       obtain rfl := Option.some.inj H
       go_wp2_with (first | ((with_reducible refine gate_callee (f := 14) rfl ?_); refine goesL_ (some 25) rfl rfl Try.func14 (by kernel_rfl) rfl #[.string a0, .string a1] rfl (by (try simp only [List.map_toArray, List.map_cons, List.map_nil]); first | done | rfl | (simp only [List.length_drop, List.length_take]; rfl)) ?_; (with_reducible refine (natural_DivMod.calls kj2 a0 a1 t485 t486 t487 _ A12.out).mono ?_); rintro e w51 ⟨rfl, hb⟩; refine ⟨_, rfl, ?_⟩; have n0_ := Aside0.mk (below_step (by repeat (first | (with_reducible first | exact HB.out | apply below_alloc | apply pw_below_drewN | apply below_drew1) | exact HB.out)) hb); clear HB; have HB := n0_; clear n0_; (try clear hb); (try clear hb2); (try clear hk); (try clear hi)) | ((with_reducible refine gate_callee (f := 15) rfl ?_); refine goesL_ (some 32) rfl rfl Try.func15 (by kernel_rfl) rfl #[.string a0, .string a1] rfl (by (try simp only [List.map_toArray, List.map_cons, List.map_nil]); first | done | rfl | (simp only [List.length_drop, List.length_take]; rfl)) ?_; (with_reducible refine (natural_Gcd.calls kj2 a0 a1 t488 t489 _ A13.out).mono ?_); rintro e w52 ⟨rfl, hb⟩; refine ⟨_, rfl, ?_⟩; have n0_ := Aside0.mk (below_step (by repeat (first | (with_reducible first | exact HB.out | apply below_alloc | apply pw_below_drewN | apply below_drew1) | exact HB.out)) hb); clear HB; have HB := n0_; clear n0_; (try clear hb); (try clear hb2); (try clear hk); (try clear hi)) | ((with_reducible refine gate_callee (f := 16) rfl ?_); refine goesL_ (some 37) rfl rfl Try.func16 (by kernel_rfl) rfl #[.string a0, .string a1] rfl (by (try simp only [List.map_toArray, List.map_cons, List.map_nil]); first | done | rfl | (simp only [List.length_drop, List.length_take]; rfl)) ?_; (with_reducible refine (galoislaw01_expected.calls a0 a1 t490 _ A14.out).mono ?_); rintro e w' ⟨rfl, ⟨nd, rfl⟩⟩; refine ⟨_, rfl, ?_⟩) | ((with_reducible refine gate_callee (f := 18) rfl ?_); refine goesL_ (some 60) rfl rfl Try.func18 (by kernel_rfl) rfl #[.string a0, .string a1] rfl (by (try simp only [List.map_toArray, List.map_cons, List.map_nil]); first | done | rfl | (simp only [List.length_drop, List.length_take]; rfl)) ?_; (with_reducible refine (galoisref01_DivMod.calls kj2 a0 a1 t492 t493 _ A16.out).mono ?_); rintro e w53 ⟨rfl, hb⟩; refine ⟨_, rfl, ?_⟩; have n0_ := Aside0.mk (below_step (by repeat (first | (with_reducible first | exact HB.out | apply below_alloc | apply pw_below_drewN | apply below_drew1) | exact HB.out)) hb); clear HB; have HB := n0_; clear n0_; (try clear hb); (try clear hb2); (try clear hk); (try clear hi)))
       go_ret
       exact ⟨by first | rfl | (simp [errW_none, errW_some] <;> rfl) | (simp [*, errW_none, errW_some] <;> rfl), by repeat (first | (with_reducible first | exact HB.out | apply below_alloc | apply pw_below_drewN | apply below_drew1) | exact HB.out)⟩
    ·rw [if_neg c15] at H
     have c15b0 : (t490 == 0) = false := beq_eq_false_iff_ne.mpr c15
     have c15b1 : (t490 != 0) = true := bne_iff_ne.mpr c15
     by_cases c54 : t485.toList = ([] : List UInt8)
     ·rw [if_pos c54] at H
      have c54b0 : (t485.toList == ([] : List UInt8)) = true := beq_iff_eq.mpr c54
      have c54b1 : (t485.toList != ([] : List UInt8)) = false := bne_eq_false_iff_eq.mpr c54
      clear c54
      by_cases c55 : t486.toList = ([] : List UInt8)
      ·rw [if_pos c55] at H
       have c55b0 : (t486.toList == ([] : List UInt8)) = true := beq_iff_eq.mpr c55
       have c55b1 : (t486.toList != ([] : List UInt8)) = false := bne_eq_false_iff_eq.mpr c55
       clear c55
       by_cases c56 : t487 = t490
       ·rw [if_pos c56] at H
        have c56b0 : (t487 == t490) = true := beq_iff_eq.mpr c56
        have c56b1 : (t487 != t490) = false := bne_eq_false_iff_eq.mpr c56
        clear c56
        replace H := Option.bind_eq_some_iff.mp H
        obtain ⟨t491, A570, H⟩ := H
        replace H : (some t491) = some r := H
        have A57 := Aside0.mk A570
        clear A570
        obtain rfl := Option.some.inj H
        go_wp2_with (first | ((with_reducible refine gate_callee (f := 14) rfl ?_); refine goesL_ (some 25) rfl rfl Try.func14 (by kernel_rfl) rfl #[.string a0, .string a1] rfl (by (try simp only [List.map_toArray, List.map_cons, List.map_nil]); first | done | rfl | (simp only [List.length_drop, List.length_take]; rfl)) ?_; (with_reducible refine (natural_DivMod.calls kj2 a0 a1 t485 t486 t487 _ A12.out).mono ?_); rintro e w58 ⟨rfl, hb⟩; refine ⟨_, rfl, ?_⟩; have n0_ := Aside0.mk (below_step (by repeat (first | (with_reducible first | exact HB.out | apply below_alloc | apply pw_below_drewN | apply below_drew1) | exact HB.out)) hb); clear HB; have HB := n0_; clear n0_; (try clear hb); (try clear hb2); (try clear hk); (try clear hi)) | ((with_reducible refine gate_callee (f := 15) rfl ?_); refine goesL_ (some 32) rfl rfl Try.func15 (by kernel_rfl) rfl #[.string a0, .string a1] rfl (by (try simp only [List.map_toArray, List.map_cons, List.map_nil]); first | done | rfl | (simp only [List.length_drop, List.length_take]; rfl)) ?_; (with_reducible refine (natural_Gcd.calls kj2 a0 a1 t488 t489 _ A13.out).mono ?_); rintro e w59 ⟨rfl, hb⟩; refine ⟨_, rfl, ?_⟩; have n0_ := Aside0.mk (below_step (by repeat (first | (with_reducible first | exact HB.out | apply below_alloc | apply pw_below_drewN | apply below_drew1) | exact HB.out)) hb); clear HB; have HB := n0_; clear n0_; (try clear hb); (try clear hb2); (try clear hk); (try clear hi)) | ((with_reducible refine gate_callee (f := 16) rfl ?_); refine goesL_ (some 37) rfl rfl Try.func16 (by kernel_rfl) rfl #[.string a0, .string a1] rfl (by (try simp only [List.map_toArray, List.map_cons, List.map_nil]); first | done | rfl | (simp only [List.length_drop, List.length_take]; rfl)) ?_; (with_reducible refine (galoislaw01_expected.calls a0 a1 t490 _ A14.out).mono ?_); rintro e w' ⟨rfl, ⟨nd, rfl⟩⟩; refine ⟨_, rfl, ?_⟩) | (go_at_call 17; (with_reducible refine (galoislaw01_right.calls t488 t489 t490 (⟨#[]⟩ : ByteArray) t491 _ A57.out).mono ?_); rintro e w' ⟨rfl, ⟨nd, rfl⟩⟩))
        go_ret
        exact ⟨by first | rfl | (simp [errW_none, errW_some] <;> rfl) | (simp [*, errW_none, errW_some] <;> rfl), by repeat (first | (with_reducible first | exact HB.out | apply below_alloc | apply pw_below_drewN | apply below_drew1) | exact HB.out)⟩
       ·rw [if_neg c56] at H
        have c56b0 : (t487 == t490) = false := beq_eq_false_iff_ne.mpr c56
        have c56b1 : (t487 != t490) = true := bne_iff_ne.mpr c56
        obtain rfl := Option.some.inj H
        go_wp2_with (first | ((with_reducible refine gate_callee (f := 14) rfl ?_); refine goesL_ (some 25) rfl rfl Try.func14 (by kernel_rfl) rfl #[.string a0, .string a1] rfl (by (try simp only [List.map_toArray, List.map_cons, List.map_nil]); first | done | rfl | (simp only [List.length_drop, List.length_take]; rfl)) ?_; (with_reducible refine (natural_DivMod.calls kj2 a0 a1 t485 t486 t487 _ A12.out).mono ?_); rintro e w60 ⟨rfl, hb⟩; refine ⟨_, rfl, ?_⟩; have n0_ := Aside0.mk (below_step (by repeat (first | (with_reducible first | exact HB.out | apply below_alloc | apply pw_below_drewN | apply below_drew1) | exact HB.out)) hb); clear HB; have HB := n0_; clear n0_; (try clear hb); (try clear hb2); (try clear hk); (try clear hi)) | ((with_reducible refine gate_callee (f := 15) rfl ?_); refine goesL_ (some 32) rfl rfl Try.func15 (by kernel_rfl) rfl #[.string a0, .string a1] rfl (by (try simp only [List.map_toArray, List.map_cons, List.map_nil]); first | done | rfl | (simp only [List.length_drop, List.length_take]; rfl)) ?_; (with_reducible refine (natural_Gcd.calls kj2 a0 a1 t488 t489 _ A13.out).mono ?_); rintro e w61 ⟨rfl, hb⟩; refine ⟨_, rfl, ?_⟩; have n0_ := Aside0.mk (below_step (by repeat (first | (with_reducible first | exact HB.out | apply below_alloc | apply pw_below_drewN | apply below_drew1) | exact HB.out)) hb); clear HB; have HB := n0_; clear n0_; (try clear hb); (try clear hb2); (try clear hk); (try clear hi)) | ((with_reducible refine gate_callee (f := 16) rfl ?_); refine goesL_ (some 37) rfl rfl Try.func16 (by kernel_rfl) rfl #[.string a0, .string a1] rfl (by (try simp only [List.map_toArray, List.map_cons, List.map_nil]); first | done | rfl | (simp only [List.length_drop, List.length_take]; rfl)) ?_; (with_reducible refine (galoislaw01_expected.calls a0 a1 t490 _ A14.out).mono ?_); rintro e w' ⟨rfl, ⟨nd, rfl⟩⟩; refine ⟨_, rfl, ?_⟩))
        go_ret
        exact ⟨by first | rfl | (simp [errW_none, errW_some] <;> rfl) | (simp [*, errW_none, errW_some] <;> rfl), by repeat (first | (with_reducible first | exact HB.out | apply below_alloc | apply pw_below_drewN | apply below_drew1) | exact HB.out)⟩
      ·rw [if_neg c55] at H
       have c55b0 : (t486.toList == ([] : List UInt8)) = false := beq_eq_false_iff_ne.mpr c55
       have c55b1 : (t486.toList != ([] : List UInt8)) = true := bne_iff_ne.mpr c55
       obtain rfl := Option.some.inj H
       go_wp2_with (first | ((with_reducible refine gate_callee (f := 14) rfl ?_); refine goesL_ (some 25) rfl rfl Try.func14 (by kernel_rfl) rfl #[.string a0, .string a1] rfl (by (try simp only [List.map_toArray, List.map_cons, List.map_nil]); first | done | rfl | (simp only [List.length_drop, List.length_take]; rfl)) ?_; (with_reducible refine (natural_DivMod.calls kj2 a0 a1 t485 t486 t487 _ A12.out).mono ?_); rintro e w62 ⟨rfl, hb⟩; refine ⟨_, rfl, ?_⟩; have n0_ := Aside0.mk (below_step (by repeat (first | (with_reducible first | exact HB.out | apply below_alloc | apply pw_below_drewN | apply below_drew1) | exact HB.out)) hb); clear HB; have HB := n0_; clear n0_; (try clear hb); (try clear hb2); (try clear hk); (try clear hi)) | ((with_reducible refine gate_callee (f := 15) rfl ?_); refine goesL_ (some 32) rfl rfl Try.func15 (by kernel_rfl) rfl #[.string a0, .string a1] rfl (by (try simp only [List.map_toArray, List.map_cons, List.map_nil]); first | done | rfl | (simp only [List.length_drop, List.length_take]; rfl)) ?_; (with_reducible refine (natural_Gcd.calls kj2 a0 a1 t488 t489 _ A13.out).mono ?_); rintro e w63 ⟨rfl, hb⟩; refine ⟨_, rfl, ?_⟩; have n0_ := Aside0.mk (below_step (by repeat (first | (with_reducible first | exact HB.out | apply below_alloc | apply pw_below_drewN | apply below_drew1) | exact HB.out)) hb); clear HB; have HB := n0_; clear n0_; (try clear hb); (try clear hb2); (try clear hk); (try clear hi)) | ((with_reducible refine gate_callee (f := 16) rfl ?_); refine goesL_ (some 37) rfl rfl Try.func16 (by kernel_rfl) rfl #[.string a0, .string a1] rfl (by (try simp only [List.map_toArray, List.map_cons, List.map_nil]); first | done | rfl | (simp only [List.length_drop, List.length_take]; rfl)) ?_; (with_reducible refine (galoislaw01_expected.calls a0 a1 t490 _ A14.out).mono ?_); rintro e w' ⟨rfl, ⟨nd, rfl⟩⟩; refine ⟨_, rfl, ?_⟩))
       go_ret
       exact ⟨by first | rfl | (simp [errW_none, errW_some] <;> rfl) | (simp [*, errW_none, errW_some] <;> rfl), by repeat (first | (with_reducible first | exact HB.out | apply below_alloc | apply pw_below_drewN | apply below_drew1) | exact HB.out)⟩
     ·rw [if_neg c54] at H
      have c54b0 : (t485.toList == ([] : List UInt8)) = false := beq_eq_false_iff_ne.mpr c54
      have c54b1 : (t485.toList != ([] : List UInt8)) = true := bne_iff_ne.mpr c54
      obtain rfl := Option.some.inj H
      go_wp2_with (first | ((with_reducible refine gate_callee (f := 14) rfl ?_); refine goesL_ (some 25) rfl rfl Try.func14 (by kernel_rfl) rfl #[.string a0, .string a1] rfl (by (try simp only [List.map_toArray, List.map_cons, List.map_nil]); first | done | rfl | (simp only [List.length_drop, List.length_take]; rfl)) ?_; (with_reducible refine (natural_DivMod.calls kj2 a0 a1 t485 t486 t487 _ A12.out).mono ?_); rintro e w64 ⟨rfl, hb⟩; refine ⟨_, rfl, ?_⟩; have n0_ := Aside0.mk (below_step (by repeat (first | (with_reducible first | exact HB.out | apply below_alloc | apply pw_below_drewN | apply below_drew1) | exact HB.out)) hb); clear HB; have HB := n0_; clear n0_; (try clear hb); (try clear hb2); (try clear hk); (try clear hi)) | ((with_reducible refine gate_callee (f := 15) rfl ?_); refine goesL_ (some 32) rfl rfl Try.func15 (by kernel_rfl) rfl #[.string a0, .string a1] rfl (by (try simp only [List.map_toArray, List.map_cons, List.map_nil]); first | done | rfl | (simp only [List.length_drop, List.length_take]; rfl)) ?_; (with_reducible refine (natural_Gcd.calls kj2 a0 a1 t488 t489 _ A13.out).mono ?_); rintro e w65 ⟨rfl, hb⟩; refine ⟨_, rfl, ?_⟩; have n0_ := Aside0.mk (below_step (by repeat (first | (with_reducible first | exact HB.out | apply below_alloc | apply pw_below_drewN | apply below_drew1) | exact HB.out)) hb); clear HB; have HB := n0_; clear n0_; (try clear hb); (try clear hb2); (try clear hk); (try clear hi)) | ((with_reducible refine gate_callee (f := 16) rfl ?_); refine goesL_ (some 37) rfl rfl Try.func16 (by kernel_rfl) rfl #[.string a0, .string a1] rfl (by (try simp only [List.map_toArray, List.map_cons, List.map_nil]); first | done | rfl | (simp only [List.length_drop, List.length_take]; rfl)) ?_; (with_reducible refine (galoislaw01_expected.calls a0 a1 t490 _ A14.out).mono ?_); rintro e w' ⟨rfl, ⟨nd, rfl⟩⟩; refine ⟨_, rfl, ?_⟩))
      go_ret
      exact ⟨by first | rfl | (simp [errW_none, errW_some] <;> rfl) | (simp [*, errW_none, errW_some] <;> rfl), by repeat (first | (with_reducible first | exact HB.out | apply below_alloc | apply pw_below_drewN | apply below_drew1) | exact HB.out)⟩
def galoislaw01_NaturalQuotients.Pure : Prop := ∀ (a0 : ByteArray) (a1 : ByteArray), a0.size ≤ 140737488351232 → a1.size ≤ 140737488351232 → ∃ k, galoislaw01_NaturalQuotients.f k a0 a1 = some true
theorem galoislaw01_NaturalQuotients.walk (P : galoislaw01_NaturalQuotients.Pure) (a0 : ByteArray) (a1 : ByteArray) (w : World) (w0 : a0.size ≤ 140737488351232) (w1 : a1.size ≤ 140737488351232) :
  Calls Try.prog 3 #[.string a0, .string a1] w fun e w' => e = .returned (.bool true) ∧ Below w.heap.size w w' := by
 obtain ⟨k, h⟩ := P a0 a1 w0 w1
 refine (galoislaw01_NaturalQuotients.calls k a0 a1 true w h).mono ?_
 rintro e w' ⟨rfl, hd⟩
 exact ⟨rfl, hd⟩
end Go.Proofs.Ytohkmnbnjacfaaa.All
namespace Go.Proofs.Ytohkmnbnjacfaaa.All
open Go.Proofs.YtohkmnbnjacfaaaX
open Go.RowKit Go.Proofs.YtohkmnbnjacfaaaW.PrintWords Go.Proofs.YtohkmnbnjacfaaaW.PrintLast Go.Proofs.YtohkmnbnjacfaaaW.PrintMore
attribute [local go_sem] max2_int min2_int max_two min_two max_three min_three max_four min_four
set_option linter.unusedVariables false
set_option linter.unusedSimpArgs false
end Go.Proofs.Ytohkmnbnjacfaaa.All
namespace Go.Proofs.Ytohkmnbnjacfaaa.All
open Go.Proofs.YtohkmnbnjacfaaaX
open Go.RowKit Go.Proofs.YtohkmnbnjacfaaaW.PrintWords Go.Proofs.YtohkmnbnjacfaaaW.PrintLast Go.Proofs.YtohkmnbnjacfaaaW.PrintMore
attribute [local go_sem] max2_int min2_int max_two min_two max_three min_three max_four min_four
set_option linter.unusedVariables false
set_option linter.unusedSimpArgs false
end Go.Proofs.Ytohkmnbnjacfaaa.All
namespace Go.Proofs.Ytohkmnbnjacfaaa.All
open Go.Proofs.YtohkmnbnjacfaaaX
open Go.RowKit Go.Proofs.YtohkmnbnjacfaaaW.PrintWords Go.Proofs.YtohkmnbnjacfaaaW.PrintLast Go.Proofs.YtohkmnbnjacfaaaW.PrintMore
attribute [local go_sem] max2_int min2_int max_two min_two max_three min_three max_four min_four
set_option linter.unusedVariables false
set_option linter.unusedSimpArgs false
end Go.Proofs.Ytohkmnbnjacfaaa.All
namespace Go.Proofs.Ytohkmnbnjacfaaa.All
open Go.Proofs.YtohkmnbnjacfaaaX
open Go.RowKit Go.Proofs.YtohkmnbnjacfaaaW.PrintWords Go.Proofs.YtohkmnbnjacfaaaW.PrintLast Go.Proofs.YtohkmnbnjacfaaaW.PrintMore
attribute [local go_sem] max2_int min2_int max_two min_two max_three min_three max_four min_four
set_option linter.unusedVariables false
set_option linter.unusedSimpArgs false
end Go.Proofs.Ytohkmnbnjacfaaa.All
namespace Go.Proofs.Ytohkmnbnjacfaaa.All
open Go.Proofs.YtohkmnbnjacfaaaX
open Go.RowKit Go.Proofs.YtohkmnbnjacfaaaW.PrintWords Go.Proofs.YtohkmnbnjacfaaaW.PrintLast Go.Proofs.YtohkmnbnjacfaaaW.PrintMore
attribute [local go_sem] max2_int min2_int max_two min_two max_three min_three max_four min_four
set_option linter.unusedVariables false
set_option linter.unusedSimpArgs false
end Go.Proofs.Ytohkmnbnjacfaaa.All
namespace Go.Proofs.Ytohkmnbnjacfaaa.All
open Go.Proofs.YtohkmnbnjacfaaaX
open Go.RowKit Go.Proofs.YtohkmnbnjacfaaaW.PrintWords Go.Proofs.YtohkmnbnjacfaaaW.PrintLast Go.Proofs.YtohkmnbnjacfaaaW.PrintMore
attribute [local go_sem] max2_int min2_int max_two min_two max_three min_three max_four min_four
set_option linter.unusedVariables false
set_option linter.unusedSimpArgs false
end Go.Proofs.Ytohkmnbnjacfaaa.All
set_option linter.unusedVariables false
namespace Go.Proofs.YtohkmnbnjacfaaaN
open Go.Proofs.YtohkmnbnjacfaaaW.PrintWords
def vB (B : Int) : List Int → Int
  | [] => 0
  | x :: xs => x + B * vB B xs
def Dig (B : Int) (l : List Int) : Prop := ∀ x, x ∈ l → 0 ≤ x ∧ x < B
def Trim (l : List Int) : Prop := 0 < l.length → rd l (l.length - 1 : Nat) ≠ 0
theorem vB_cons (B x : Int) (xs : List Int) : vB B (x :: xs) = x + B * vB B xs := rfl
theorem Dig_nil (B : Int) : Dig B [] := fun _ h => absurd h (List.not_mem_nil)
theorem Dig_cons {B x : Int} {xs : List Int} : Dig B (x :: xs) ↔ (0 ≤ x ∧ x < B) ∧ Dig B xs := by
  constructor
  · intro h
    exact ⟨h x (List.mem_cons_self), fun y hy => h y (List.mem_cons_of_mem _ hy)⟩
  · rintro ⟨h1, h2⟩ y hy
    rcases List.mem_cons.1 hy with rfl | hy
    · exact h1
    · exact h2 y hy
theorem Dig_append {B : Int} {xs ys : List Int} (hx : Dig B xs) (hy : Dig B ys) : Dig B (xs ++ ys) := by
  intro z hz
  rcases List.mem_append.1 hz with h | h
  · exact hx z h
  · exact hy z h
theorem Dig_take {B : Int} {xs : List Int} (h : Dig B xs) (n : Nat) : Dig B (xs.take n) := fun z hz => h z (List.mem_of_mem_take hz)
theorem Dig_drop {B : Int} {xs : List Int} (h : Dig B xs) (n : Nat) : Dig B (xs.drop n) := fun z hz => h z (List.mem_of_mem_drop hz)
theorem Dig_set {B : Int} {xs : List Int} (h : Dig B xs) (n : Nat) {v : Int} (h0 : 0 ≤ v) (h1 : v < B) : Dig B (xs.set n v) := by
  intro z hz
  rcases List.mem_or_eq_of_mem_set hz with hz | rfl
  · exact h z hz
  · exact ⟨h0, h1⟩
theorem Dig_replicate {B : Int} (hB : 0 < B) (n : Nat) : Dig B (List.replicate n 0) := by
  intro z hz
  rw [List.eq_of_mem_replicate hz]
  exact ⟨Int.le_refl _, hB⟩
theorem Dig_reverse {B : Int} {xs : List Int} (h : Dig B xs) : Dig B xs.reverse := fun z hz => h z (List.mem_reverse.1 hz)
theorem rd_nat (xs : List Int) (n : Nat) : rd xs (n : Int) = xs.getD n 0 := by simp [rd]
theorem rd_get (xs : List Int) (n : Nat) (h : n < xs.length) : rd xs (n : Int) = xs[n] := by
  rw [rd_nat, List.getD_eq_getElem?_getD, List.getElem?_eq_getElem h]
  rfl
theorem Dig_rd {B : Int} {xs : List Int} (h : Dig B xs) (n : Nat) (hn : n < xs.length) : 0 ≤ rd xs (n : Int) ∧ rd xs (n : Int) < B := by
  rw [rd_get xs n hn]
  exact h _ (List.getElem_mem hn)
theorem vB_append (B : Int) (xs ys : List Int) : vB B (xs ++ ys) = vB B xs + B ^ xs.length * vB B ys := by
  induction xs with
  | nil => simp [vB]
  | cons x xs ih =>
    rw [List.cons_append, vB_cons, ih, vB_cons, List.length_cons, Int.pow_succ, Int.mul_add, ← Int.add_assoc, ← Int.mul_assoc, Int.mul_comm B (B ^ xs.length)]
theorem vB_replicate (B : Int) (n : Nat) : vB B (List.replicate n 0) = 0 := by
  induction n with
  | zero => rfl
  | succ n ih => rw [List.replicate_succ, vB_cons, ih]; simp
theorem vB_nonneg {B : Int} (hB : 0 ≤ B) {l : List Int} (h : Dig B l) : 0 ≤ vB B l := by
  induction l with
  | nil => exact Int.le_refl _
  | cons x xs ih =>
    have := Dig_cons.1 h
    rw [vB_cons]
    exact Int.add_nonneg this.1.1 (Int.mul_nonneg hB (ih this.2))
theorem vB_lt {B : Int} (hB : 0 < B) {l : List Int} (h : Dig B l) : vB B l < B ^ l.length := by
  induction l with
  | nil => simp [vB]
  | cons x xs ih =>
    have hd := Dig_cons.1 h
    have h1 := ih hd.2
    rw [vB_cons, List.length_cons, Int.pow_succ, Int.mul_comm (B ^ xs.length) B]
    have h2 : B * (vB B xs + 1) ≤ B * B ^ xs.length := Int.mul_le_mul_of_nonneg_left (by omega) (by omega)
    rw [Int.mul_add, Int.mul_one] at h2
    omega
theorem vB_split (B : Int) (l : List Int) (n : Nat) (h : n ≤ l.length) : vB B l = vB B (l.take n) + B ^ n * vB B (l.drop n) := by
  conv => lhs; rw [← List.take_append_drop n l]
  rw [vB_append, List.length_take, Nat.min_eq_left h]
theorem vB_take_succ (B : Int) (l : List Int) (n : Nat) (h : n < l.length) : vB B (l.take (n + 1)) = vB B (l.take n) + B ^ n * rd l (n : Int) := by
  rw [List.take_succ_eq_append_getElem h, vB_append, List.length_take, Nat.min_eq_left (by omega), rd_get l n h]
  simp [vB]
theorem vB_set (B : Int) (l : List Int) (n : Nat) (v : Int) (h : n < l.length) : vB B (l.set n v) = vB B l + B ^ n * (v - rd l (n : Int)) := by
  induction l generalizing n with
  | nil => simp at h
  | cons x xs ih =>
    cases n with
    | zero => simp [vB, rd]; omega
    | succ n =>
      have h' : n < xs.length := by simpa using h
      rw [List.set_cons_succ, vB_cons, ih n h', vB_cons]
      have : rd (x :: xs) ((n + 1 : Nat) : Int) = rd xs (n : Int) := by rw [rd_nat, rd_nat]; simp
      rw [this, Int.pow_succ, Int.mul_add, ← Int.add_assoc, ← Int.mul_assoc, Int.mul_comm B (B ^ n)]
theorem set_eq (l : List Int) (n : Nat) (h : n < l.length) : l.set n (rd l (n : Int)) = l := by
  rw [rd_get l n h, List.set_getElem_self]
theorem rd_set_self (l : List Int) (n : Nat) (v : Int) (h : n < l.length) : rd (l.set n v) (n : Int) = v := by
  rw [rd_get _ n (by simpa using h), List.getElem_set_self]
theorem rd_set_ne (l : List Int) (n m : Nat) (v : Int) (h : n ≠ m) : rd (l.set n v) (m : Int) = rd l (m : Int) := by
  rw [rd_nat, rd_nat, List.getD_eq_getElem?_getD, List.getD_eq_getElem?_getD, List.getElem?_set_ne h]
theorem rd_take (xs : List Int) (n m : Nat) (h : m < n) : rd (xs.take n) (m : Int) = rd xs (m : Int) := by
  rw [rd_nat, rd_nat, List.getD_eq_getElem?_getD, List.getD_eq_getElem?_getD, List.getElem?_take_of_lt h]
theorem rd_drop (xs : List Int) (n m : Nat) : rd (xs.drop n) (m : Int) = rd xs ((n + m : Nat) : Int) := by
  rw [rd_nat, rd_nat, List.getD_eq_getElem?_getD, List.getD_eq_getElem?_getD, List.getElem?_drop]
theorem rd_replicate (n m : Nat) : rd (List.replicate n 0) (m : Int) = 0 := by
  rw [rd_nat, List.getD_eq_getElem?_getD, List.getElem?_replicate]
  split <;> rfl
theorem dig_inj {B : Int} (hB : 0 < B) : ∀ {l m : List Int}, Dig B l → Dig B m → l.length = m.length → vB B l = vB B m → l = m
  | [], [], _, _, _, _ => rfl
  | [], y :: ys, _, _, h, _ => by simp at h
  | x :: xs, [], _, _, h, _ => by simp at h
  | x :: xs, y :: ys, hl, hm, h, hv => by
    have h1 := Dig_cons.1 hl
    have h2 := Dig_cons.1 hm
    rw [vB_cons, vB_cons] at hv
    have hx : x = y := by
      have e1 : (x + B * vB B xs) % B = x := by rw [Int.add_mul_emod_self_left, Int.emod_eq_of_lt h1.1.1 h1.1.2]
      have e2 : (y + B * vB B ys) % B = y := by rw [Int.add_mul_emod_self_left, Int.emod_eq_of_lt h2.1.1 h2.1.2]
      rw [← e1, ← e2, hv]
    subst hx
    have hv' : B * vB B xs = B * vB B ys := by omega
    have := Int.eq_of_mul_eq_mul_left (by omega) hv'
    rw [dig_inj hB h1.2 h2.2 (by simpa using h) this]
theorem trim_le {B : Int} (hB : 0 < B) {l : List Int} (h : Dig B l) (ht : Trim l) (hp : 0 < l.length) : B ^ (l.length - 1) ≤ vB B l := by
  have e : l.take (l.length - 1 + 1) = l := List.take_of_length_le (by omega)
  have h1 := vB_take_succ B l (l.length - 1) (by omega)
  rw [e] at h1
  rw [h1]
  have h2 := vB_nonneg (Int.le_of_lt hB) (Dig_take h (l.length - 1))
  have h3 := (Dig_rd h (l.length - 1) (by omega)).1
  have h4 : 1 ≤ rd l ((l.length - 1 : Nat) : Int) := by have := ht hp; omega
  have h5 : B ^ (l.length - 1) * 1 ≤ B ^ (l.length - 1) * rd l ((l.length - 1 : Nat) : Int) := Int.mul_le_mul_of_nonneg_left h4 (Int.le_of_lt (Int.pow_pos hB))
  rw [Int.mul_one] at h5
  omega
theorem pow_le_pow {B : Int} (hB : 0 < B) {m n : Nat} (h : m ≤ n) : B ^ m ≤ B ^ n := by
  obtain ⟨j, rfl⟩ : ∃ j, n = m + j := ⟨n - m, by omega⟩
  rw [Int.pow_add]
  have h1 : 1 ≤ B ^ j := by have : 0 < B ^ j := Int.pow_pos hB; omega
  have h2 : B ^ m * 1 ≤ B ^ m * B ^ j := Int.mul_le_mul_of_nonneg_left h1 (Int.le_of_lt (Int.pow_pos hB))
  rwa [Int.mul_one] at h2
theorem trim_len {B : Int} (hB : 0 < B) {l m : List Int} (hl : Dig B l) (hm : Dig B m) (ht : Trim m) (h : l.length < m.length) : vB B l < vB B m := by
  have h1 := vB_lt hB hl
  have h2 := trim_le hB hm ht (by omega)
  have h3 := pow_le_pow hB (show l.length ≤ m.length - 1 by omega)
  omega
theorem trim_inj {B : Int} (hB : 0 < B) {l m : List Int} (hl : Dig B l) (hm : Dig B m) (tl : Trim l) (tm : Trim m) (hv : vB B l = vB B m) : l = m := by
  rcases Nat.lt_trichotomy l.length m.length with h | h | h
  · have := trim_len hB hl hm tm h; omega
  · exact dig_inj hB hl hm h hv
  · have := trim_len hB hm hl tl h; omega
def dgs (b : Nat) (n : Nat) : List Int :=
  if h : n = 0 then [] else ((n % (b + 2) : Nat) : Int) :: dgs b (n / (b + 2))
termination_by n
decreasing_by exact Nat.div_lt_self (by omega) (by omega)
theorem dgs_zero (b : Nat) : dgs b 0 = [] := by rw [dgs]; simp
theorem dgs_pos (b n : Nat) (h : n ≠ 0) : dgs b n = ((n % (b + 2) : Nat) : Int) :: dgs b (n / (b + 2)) := by rw [dgs]; simp [h]
theorem dgs_spec (b : Nat) : ∀ n, Dig (b + 2 : Nat) (dgs b n) ∧ Trim (dgs b n) ∧ vB (b + 2 : Nat) (dgs b n) = n := by
  intro n
  induction n using Nat.strongRecOn with
  | _ n ih =>
    by_cases h : n = 0
    · subst h
      rw [dgs_zero]
      exact ⟨Dig_nil _, fun h => absurd h (by simp), rfl⟩
    · obtain ⟨h1, h2, h3⟩ := ih (n / (b + 2)) (Nat.div_lt_self (by omega) (by omega))
      rw [dgs_pos b n h]
      have hm := Nat.mod_lt n (show 0 < b + 2 by omega)
      have hd := Nat.div_add_mod n (b + 2)
      refine ⟨Dig_cons.2 ⟨⟨by omega, by omega⟩, h1⟩, ?_, ?_⟩
      · intro _
        by_cases hz : n / (b + 2) = 0
        · rw [hz, dgs_zero]
          show rd [((n % (b + 2) : Nat) : Int)] ((0 : Nat) : Int) ≠ 0
          rw [hz] at hd
          have : ((n % (b + 2) : Nat) : Int) ≠ 0 := by omega
          simpa [rd] using this
        · have hl : 0 < (dgs b (n / (b + 2))).length := by rw [dgs_pos _ _ hz]; simp
          have := h2 hl
          rw [List.length_cons, Nat.add_sub_cancel]
          obtain ⟨q, hq⟩ : ∃ q, (dgs b (n / (b + 2))).length = q + 1 := ⟨(dgs b (n / (b + 2))).length - 1, by omega⟩
          rw [hq] at this ⊢
          rw [rd_nat] at this ⊢
          simpa using this
      · rw [vB_cons, h3]
        have : ((b + 2 : Nat) : Int) * ((n / (b + 2) : Nat) : Int) + ((n % (b + 2) : Nat) : Int) = n := by exact_mod_cast hd
        omega
theorem dgs_unique {b : Nat} {l : List Int} {n : Nat} (hl : Dig (b + 2 : Nat) l) (ht : Trim l) (hv : vB (b + 2 : Nat) l = n) : l = dgs b n := by
  obtain ⟨h1, h2, h3⟩ := dgs_spec b n
  exact trim_inj (by omega) hl h1 ht h2 (by rw [hv, h3])
theorem dgs_len {b n k : Nat} (h : n < (b + 2) ^ k) : (dgs b n).length ≤ k := by
  obtain ⟨h1, h2, h3⟩ := dgs_spec b n
  rcases Nat.lt_or_ge k (dgs b n).length with hk | hk
  · have h4 := trim_le (by omega) h1 h2 (by omega)
    rw [h3] at h4
    have h5 := pow_le_pow (B := ((b + 2 : Nat) : Int)) (by omega) (show k ≤ (dgs b n).length - 1 by omega)
    have h6 : ((n : Nat) : Int) < ((b + 2 : Nat) : Int) ^ k := by exact_mod_cast h
    omega
  · exact hk
theorem dgs_lt (b n : Nat) : n < (b + 2) ^ (dgs b n).length := by
  obtain ⟨h1, h2, h3⟩ := dgs_spec b n
  have := vB_lt (by omega) h1
  rw [h3] at this
  exact_mod_cast this
end Go.Proofs.YtohkmnbnjacfaaaN
set_option linter.unusedVariables false
namespace Go.Proofs.YtohkmnbnjacfaaaN
open Go.RowKit Go.Proofs.Ytohkmnbnjacfaaa.All Go.Proofs.YtohkmnbnjacfaaaW.PrintWords Go.Proofs.YtohkmnbnjacfaaaW.PrintLast Go.Proofs.YtohkmnbnjacfaaaW.PrintMore
theorem w64 {x : Int} (h0 : -9223372036854775808 ≤ x) (h1 : x < 9223372036854775808) : wrap64 x = x := by unfold wrap64; omega
theorem u64 {x : Int} (h0 : 0 ≤ x) (h1 : x < 18446744073709551616) : IntKind.u64.wrap x = x := by
  simp [IntKind.wrap, IntKind.bits, IntKind.signed]
  omega
theorem u64_mod (x : Int) : IntKind.u64.wrap x = x % 18446744073709551616 := by simp [IntKind.wrap, IntKind.bits, IntKind.signed]
abbrev B64 : Int := 18446744073709551616
def d64 (n : Nat) : List Int := dgs 18446744073709551614 n
theorem d64_dig (n : Nat) : Dig B64 (d64 n) := (dgs_spec 18446744073709551614 n).1
theorem d64_trim (n : Nat) : Trim (d64 n) := (dgs_spec 18446744073709551614 n).2.1
theorem d64_val (n : Nat) : vB B64 (d64 n) = n := (dgs_spec 18446744073709551614 n).2.2
theorem d64_unique {l : List Int} {n : Nat} (hl : Dig B64 l) (ht : Trim l) (hv : vB B64 l = n) : l = d64 n := dgs_unique hl ht hv
theorem d64_zero : d64 0 = [] := dgs_zero _
def d8 (n : Nat) : List Int := dgs 254 n
theorem d8_dig (n : Nat) : Dig 256 (d8 n) := (dgs_spec 254 n).1
theorem d8_trim (n : Nat) : Trim (d8 n) := (dgs_spec 254 n).2.1
theorem d8_val (n : Nat) : vB 256 (d8 n) = n := (dgs_spec 254 n).2.2
theorem d8_unique {l : List Int} {n : Nat} (hl : Dig 256 l) (ht : Trim l) (hv : vB 256 l = n) : l = d8 n := dgs_unique hl ht hv
def nat (n : Nat) : ByteArray := strOfNums (d8 n).reverse
theorem bytesOf_str {l : List Int} (h : Dig 256 l) : bytesOf (strOfNums l) = l := by
  unfold bytesOf
  rw [strOfNums_data, List.map_map]
  conv => rhs; rw [← List.map_id l]
  refine List.map_congr_left fun x hx => ?_
  have := h x hx
  simp [UInt8.toNat_ofNat']
  omega
theorem str_bytesOf (s : ByteArray) : strOfNums (bytesOf s) = s := by
  unfold strOfNums bytesOf
  rw [List.map_map]
  have : List.map ((fun n : Int => UInt8.ofNat n.toNat) ∘ fun b : UInt8 => (b.toNat : Int)) s.data.toList = s.data.toList := by
    conv => rhs; rw [← List.map_id s.data.toList]
    refine List.map_congr_left fun x _ => ?_
    simp
  rw [this]
theorem bytesOf_dig (s : ByteArray) : Dig 256 (bytesOf s) := by
  intro x hx
  unfold bytesOf at hx
  obtain ⟨b, _, rfl⟩ := List.mem_map.1 hx
  have := b.toNat_lt
  omega
theorem str_ext {s t : ByteArray} (h : bytesOf s = bytesOf t) : s = t := by rw [← str_bytesOf s, h, str_bytesOf]
theorem toList_nil {s : ByteArray} : s.toList = [] ↔ s.size = 0 := by
  rw [ByteArray.toList_eq, ← List.length_eq_zero_iff, data_length]
theorem nat_bytes (n : Nat) : bytesOf (nat n) = (d8 n).reverse := bytesOf_str (Dig_reverse (d8_dig n))
theorem nat_size (n : Nat) : (nat n).size = (d8 n).length := by rw [← bytesOf_length, nat_bytes, List.length_reverse]
def bval (s : ByteArray) : Int := vB 256 (bytesOf s).reverse
theorem bval_nat (n : Nat) : bval (nat n) = n := by unfold bval; rw [nat_bytes, List.reverse_reverse, d8_val]
theorem bval_nonneg (s : ByteArray) : 0 ≤ bval s := vB_nonneg (by decide) (Dig_reverse (bytesOf_dig s))
theorem rd_reverse (l : List Int) (n : Nat) (h : n < l.length) : rd l.reverse (n : Int) = rd l ((l.length - 1 - n : Nat) : Int) := by
  rw [rd_get _ n (by simpa using h), rd_get _ _ (by omega), List.getElem_reverse]
theorem bt_rd (s : ByteArray) (i : Int) : bt s i = rd (bytesOf s) i := (rd_bytesOf s i).symm
theorem wf_nat {s : ByteArray} (h : s.size = 0 ∨ bt s 0 ≠ 0) : s = nat (bval s).toNat := by
  apply str_ext
  rw [nat_bytes]
  have ht : Trim (bytesOf s).reverse := by
    intro hp
    rw [List.length_reverse] at hp ⊢
    rw [rd_reverse _ _ (by omega), bt_rd] at *
    rw [bytesOf_length] at hp
    have e : (bytesOf s).length - 1 - ((bytesOf s).length - 1) = 0 := by omega
    rw [e]
    rcases h with h | h
    · omega
    · exact h
  have := d8_unique (n := (bval s).toNat) (Dig_reverse (bytesOf_dig s)) ht (by have := bval_nonneg s; unfold bval at this ⊢; omega)
  rw [← this, List.reverse_reverse]
theorem nat_wf (n : Nat) : (nat n).size = 0 ∨ bt (nat n) 0 ≠ 0 := by
  rcases Nat.eq_zero_or_pos (d8 n).length with h | h
  · left; rw [nat_size, h]
  · right
    rw [bt_rd, nat_bytes]
    have := d8_trim n h
    have e := rd_reverse (d8 n) 0 (by omega)
    rw [show (d8 n).length - 1 - 0 = (d8 n).length - 1 by omega] at e
    rw [← e] at this
    exact this
theorem nat_zero : nat 0 = ⟨#[]⟩ := by unfold nat d8; rw [dgs_zero]; rfl
theorem nat_size_zero {n : Nat} : (nat n).size = 0 ↔ n = 0 := by
  constructor
  · intro h
    rw [nat_size] at h
    have := d8_val n
    rw [List.eq_nil_of_length_eq_zero h] at this
    simp [vB] at this
    omega
  · rintro rfl; rw [nat_zero]; rfl
theorem nat_size_le {n k : Nat} : (nat n).size ≤ k ↔ n < 256 ^ k := by
  rw [nat_size]
  constructor
  · intro h
    exact Nat.lt_of_lt_of_le (dgs_lt 254 n) (Nat.pow_le_pow_right (by decide) h)
  · intro h
    exact dgs_len h
theorem nat_lt_size (n : Nat) : n < 256 ^ (nat n).size := nat_size_le.1 (Nat.le_refl _)
theorem vB_zero (B : Int) : ∀ {l : List Int}, (∀ j : Nat, j < l.length → rd l (j : Int) = 0) → vB B l = 0
  | [], _ => rfl
  | x :: xs, h => by
    have h0 : x = 0 := h 0 (by simp)
    have := vB_zero B (l := xs) (fun j hj => by
      have := h (j + 1) (by simpa using hj)
      rw [rd_nat] at this ⊢
      simpa using this)
    rw [vB_cons, h0, this]
    simp
theorem vB_low (B : Int) {l : List Int} {n : Nat} (hn : n ≤ l.length) (h : ∀ j : Nat, n ≤ j → j < l.length → rd l (j : Int) = 0) : vB B l = vB B (l.take n) := by
  rw [vB_split B l n hn, vB_zero B (l := l.drop n) (fun j hj => by rw [rd_drop]; exact h _ (by omega) (by simp at hj; omega))]
  simp
theorem trim_l0 (l : List Int) (hd : Dig B64 l) (hl : l.length < 9223372036854775808) : ∀ n : Nat, n ≤ l.length → (∀ j : Nat, n ≤ j → j < l.length → rd l (j : Int) = 0) → Ev (fun k => exact_trim.l0 k l (n : Int)) (d64 (vB B64 l).toNat) := by
  have hv := vB_nonneg (by decide) hd
  intro n
  induction n with
  | zero =>
    intro hn h
    refine Ev.step (f := fun _ => some (d64 (vB B64 l).toNat)) (fun k => ?_) (Ev.now _)
    simp only [exact_trim.l0]
    rw [if_neg (by omega), if_pos (by omega), if_pos (by omega)]
    have := vB_low B64 hn h
    rw [this]
    simp [vB, d64_zero]
  | succ n ih =>
    intro hn h
    have e1 : wrap64 (((n + 1 : Nat) : Int) - 1) = (n : Int) := by rw [w64 (by omega) (by omega)]; omega
    by_cases hz : rd l (n : Int) = 0
    · refine Ev.step (f := fun k => exact_trim.l0 k l (n : Int)) (fun k => ?_) (ih (by omega) (fun j hj hjl => ?_))
      · simp only [exact_trim.l0, e1]
        rw [if_pos (by omega), if_pos (by omega), if_pos (by omega), if_pos hz]
      · rcases Nat.lt_or_ge n j with hlt | hge
        · exact h j hlt hjl
        · have : j = n := by omega
          subst this
          exact hz
    · refine Ev.step (f := fun _ => some (d64 (vB B64 l).toNat)) (fun k => ?_) (Ev.now _)
      simp only [exact_trim.l0, e1]
      rw [if_pos (by omega), if_pos (by omega), if_pos (by omega), if_neg hz, if_pos (by omega), if_pos (by omega)]
      congr 1
      have hlen : (l.take (n + 1)).length = n + 1 := by rw [List.length_take]; omega
      refine d64_unique (Dig_take hd _) (fun _ => ?_) ?_
      · rw [Int.toNat_natCast, hlen, Nat.add_sub_cancel, rd_take l _ _ (by omega)]
        exact hz
      · rw [Int.toNat_natCast, ← vB_low B64 hn h]
        omega
theorem trim_ev {l : List Int} (hd : Dig B64 l) (hl : l.length < 9223372036854775808) : Ev (fun k => exact_trim.f k l) (d64 (vB B64 l).toNat) :=
  trim_l0 l hd hl l.length (Nat.le_refl _) (fun j h1 h2 => absurd h1 (by omega))
end Go.Proofs.YtohkmnbnjacfaaaN
set_option linter.unusedVariables false
namespace Go.Proofs.YtohkmnbnjacfaaaN
open Go.RowKit Go.Proofs.Ytohkmnbnjacfaaa.All Go.Proofs.YtohkmnbnjacfaaaW.PrintWords Go.Proofs.YtohkmnbnjacfaaaW.PrintLast Go.Proofs.YtohkmnbnjacfaaaW.PrintMore
theorem wraps_u64 (n : Int) (h0 : 0 ≤ n) (h1 : n < 2 ^ 64) : IntKind.u64.wrap n = n := u64 h0 (by simpa using h1)
theorem pow8 (q r : Nat) : (B64 : Int) ^ q * 256 ^ r = 256 ^ (8 * q + r) := by
  have e : (256 : Int) ^ 8 = B64 := rfl
  rw [Int.pow_add, Int.pow_mul, e]
theorem high_succ (s : ByteArray) (i : Nat) (h : i < s.size) : vB 256 ((bytesOf s).take (i + 1)).reverse = bt s i + 256 * vB 256 ((bytesOf s).take i).reverse := by
  rw [List.take_succ_eq_append_getElem (by rw [bytesOf_length]; exact h), List.reverse_append, bt_rd, rd_get _ i (by rw [bytesOf_length]; exact h)]
  rfl
theorem high_all (s : ByteArray) : vB 256 ((bytesOf s).take s.size).reverse = bval s := by
  rw [List.take_of_length_le (by rw [bytesOf_length]; exact Nat.le_refl _)]
  rfl
theorem word_or (x c : Int) (r : Nat) (hr : r < 8) (hx0 : 0 ≤ x) (hx1 : x < B64) (hm : x % 256 ^ (r + 1) = 0) (hc0 : 0 ≤ c) (hc1 : c ≤ 255) :
    Go.bits .or .u64 x (shl .u64 (IntKind.u64.wrap c) (8 * r : Nat)) = x + c * 256 ^ r ∧ 0 ≤ x + c * 256 ^ r ∧ x + c * 256 ^ r < B64 ∧ (x + c * 256 ^ r) % 256 ^ r = 0 := by
  have h64 : (B64 : Int) = 18446744073709551616 := rfl
  have hs : shl .u64 (IntKind.u64.wrap c) (8 * r : Nat) = c * 256 ^ r := by
    unfold shl
    rw [u64 hc0 (by omega), Int.toNat_natCast]
    have : min (8 * r) IntKind.u64.bits = 8 * r := Nat.min_eq_left (by show 8 * r ≤ 64; omega)
    rw [this, Int.pow_mul]
    have e : (2 : Int) ^ 8 = 256 := rfl
    rw [e]
    apply u64
    · exact Int.mul_nonneg hc0 (Int.le_of_lt (Int.pow_pos (by decide)))
    · have : r = 0 ∨ r = 1 ∨ r = 2 ∨ r = 3 ∨ r = 4 ∨ r = 5 ∨ r = 6 ∨ r = 7 := by omega
      rcases this with rfl | rfl | rfl | rfl | rfl | rfl | rfl | rfl <;> omega
  rw [hs]
  have hb : 0 ≤ c * 256 ^ r ∧ c * 256 ^ r < 256 ^ (r + 1) ∧ 0 ≤ x + c * 256 ^ r ∧ x + c * 256 ^ r < B64 ∧ (x + c * 256 ^ r) % 256 ^ r = 0 ∧ c * 256 ^ r < 2 ^ 64 := by
    have : r = 0 ∨ r = 1 ∨ r = 2 ∨ r = 3 ∨ r = 4 ∨ r = 5 ∨ r = 6 ∨ r = 7 := by omega
    rcases this with rfl | rfl | rfl | rfl | rfl | rfl | rfl | rfl <;> (clear hs; simp only [B64] at hx1 ⊢; omega)
  refine ⟨?_, hb.2.2.1, hb.2.2.2.1, hb.2.2.2.2.1⟩
  have hp : (2 : Int) ^ (8 * (r + 1)) = 256 ^ (r + 1) := by rw [Int.pow_mul]; rfl
  exact bits_join .u64 64 (by decide) wraps_u64 (8 * (r + 1)) x (c * 256 ^ r) hx0 (by rw [hp]; exact hm) (by rw [h64] at hx1; simpa using hx1) hb.1 (by rw [hp]; exact hb.2.1) hb.2.2.2.2.2
theorem words_l0 (s : ByteArray) (hs : s.size ≤ 1099511627776) : ∀ (d i : Nat) (w : List Int), i + d = s.size → w.length = (s.size + 7) / 8 → Dig B64 w → vB B64 w = vB 256 ((bytesOf s).take i).reverse * 256 ^ d →
    (0 < d → rd w ((d - 1) / 8 : Nat) % 256 ^ ((d - 1) % 8 + 1) = 0 ∧ ∀ q : Nat, q < (d - 1) / 8 → rd w (q : Int) = 0) → Ev (fun k => exact_words.l0 k s w (s.size : Int) (i : Int)) (d64 (bval s).toNat) := by
  intro d
  induction d with
  | zero =>
    intro i w hi hl hd hv _
    have hi : i = s.size := by omega
    subst hi
    have hv' : vB B64 w = bval s := by rw [hv, high_all]; simp
    refine Ev.step (f := fun k => (exact_trim.f k w).bind fun t => some t) (fun k => ?_) (Ev.bind (trim_ev hd (by omega)) ?_)
    · simp only [exact_words.l0]
      rw [if_neg (by omega)]
    · rw [hv']
      exact Ev.now _
  | succ d ih =>
    intro i w hi hl hd hv hz
    obtain ⟨hz1, hz2⟩ := hz (by omega)
    rw [Nat.add_sub_cancel] at hz1 hz2
    have hq : d / 8 < w.length := by omega
    have hr : d % 8 < 8 := Nat.mod_lt _ (by decide)
    have e1 : wrap64 (Int.tdiv (wrap64 (wrap64 ((s.size : Int) - 1) - (i : Int))) 8) = ((d / 8 : Nat) : Int) := by
      rw [w64 (x := (s.size : Int) - 1) (by omega) (by omega), w64 (x := (s.size : Int) - 1 - (i : Int)) (by omega) (by omega)]
      have : (s.size : Int) - 1 - (i : Int) = (d : Int) := by omega
      rw [this, Int.tdiv_eq_ediv_of_nonneg (by omega), w64 (by omega) (by omega)]
      omega
    have e2 : wrap64 (8 * Int.tmod (wrap64 (wrap64 ((s.size : Int) - 1) - (i : Int))) 8) = ((8 * (d % 8) : Nat) : Int) := by
      rw [w64 (x := (s.size : Int) - 1) (by omega) (by omega), w64 (x := (s.size : Int) - 1 - (i : Int)) (by omega) (by omega)]
      have : (s.size : Int) - 1 - (i : Int) = (d : Int) := by omega
      rw [this, Int.tmod_eq_emod_of_nonneg (by omega), w64 (by omega) (by omega)]
      omega
    have e3 : wrap64 ((i : Int) + 1) = ((i + 1 : Nat) : Int) := by rw [w64 (by omega) (by omega)]; omega
    have c1 : (i : Int) < (s.size : Int) := by omega
    have c3 : ((d / 8 : Nat) : Int) < (w.length : Int) := Int.ofNat_lt.2 hq
    have c4 : 0 < (d / 8 : Nat) → d % 8 = 0 → (d - 1) / 8 = d / 8 - 1 := by omega
    have hi' : i + 1 + d = s.size := by omega
    obtain ⟨hx0, hx1⟩ := Dig_rd hd (d / 8) hq
    obtain ⟨hc0, hc1⟩ := bt_range s (i : Int)
    obtain ⟨ho, ho0, ho1, ho2⟩ := word_or (rd w ((d / 8 : Nat) : Int)) (bt s (i : Int)) (d % 8) hr hx0 hx1 hz1 hc0 hc1
    have hk : 8 * (d / 8) + d % 8 = d := Nat.div_add_mod d 8
    refine Ev.step (f := fun k => exact_words.l0 k s (w.set (d / 8) (rd w ((d / 8 : Nat) : Int) + bt s (i : Int) * 256 ^ (d % 8))) (s.size : Int) ((i + 1 : Nat) : Int)) (fun k => ?_) (ih (i + 1) _ hi' (by rw [List.length_set]; exact hl) (Dig_set hd _ ho0 ho1) ?_ ?_)
    · simp only [exact_words.l0, e1, e2, e3]
      rw [if_pos c1, if_pos (Int.natCast_nonneg _), if_pos c3, if_pos (Int.natCast_nonneg _), if_pos c1, if_pos (Int.natCast_nonneg _), ho, Int.toNat_natCast]
    · rw [vB_set _ _ _ _ hq, hv, high_succ s i (by omega)]
      have e : rd w ((d / 8 : Nat) : Int) + bt s (i : Int) * 256 ^ (d % 8) - rd w ((d / 8 : Nat) : Int) = 256 ^ (d % 8) * bt s (i : Int) := by
        rw [Int.mul_comm (256 ^ (d % 8))]; omega
      rw [e, ← Int.mul_assoc, pow8, hk, Int.pow_succ, Int.add_mul]
      generalize vB 256 ((bytesOf s).take i).reverse = H
      generalize (256 : Int) ^ d = P
      generalize bt s (i : Int) = c
      rw [Int.mul_comm P c, Int.add_comm, Int.mul_assoc 256 H P, Int.mul_comm P 256, ← Int.mul_assoc H 256 P, Int.mul_comm H 256, Int.mul_assoc 256 H P]
    · intro hd0
      by_cases h0 : d % 8 = 0
      · have h1 : (d - 1) / 8 = d / 8 - 1 := by omega
        have h2 : 0 < d / 8 := by omega
        rw [h1]
        refine ⟨?_, fun q hq' => ?_⟩
        · rw [rd_set_ne _ _ _ _ (by omega), hz2 _ (by omega)]
          simp
        · rw [rd_set_ne _ _ _ _ (by omega), hz2 _ (by omega)]
      · have h1 : (d - 1) / 8 = d / 8 := by omega
        have h2 : (d - 1) % 8 + 1 = d % 8 := by omega
        rw [h1, h2]
        refine ⟨?_, fun q hq' => ?_⟩
        · rw [rd_set_self _ _ _ hq]
          exact ho2
        · rw [rd_set_ne _ _ _ _ (by omega), hz2 _ (by omega)]
theorem words_ev (s : ByteArray) (hs : s.size ≤ 1099511627776) : Ev (fun k => exact_words.f k s) (d64 (bval s).toNat) := by
  have e1 : wrap64 (Int.tdiv (wrap64 ((s.size : Int) + 7)) 8) = (((s.size + 7) / 8 : Nat) : Int) := by
    rw [w64 (x := (s.size : Int) + 7) (by omega) (by omega), Int.tdiv_eq_ediv_of_nonneg (by omega), w64 (by omega) (by omega)]
    omega
  refine Ev.congr (f := fun k => exact_words.l0 k s (List.replicate ((s.size + 7) / 8) 0) (s.size : Int) ((0 : Nat) : Int)) (fun k => ?_) (words_l0 s hs s.size 0 _ (by omega) (by simp) (Dig_replicate (by decide) _) ?_ ?_)
  · unfold exact_words.f
    rw [e1, if_pos (by omega), Int.toNat_natCast, if_pos (by omega)]
    rfl
  · rw [vB_replicate]
    simp [vB]
  · intro _
    exact ⟨by rw [rd_replicate]; simp, fun q _ => rd_replicate _ _⟩
theorem words_nat {n : Nat} (hs : (nat n).size ≤ 1099511627776) : Ev (fun k => exact_words.f k (nat n)) (d64 n) := by
  have := words_ev (nat n) hs
  rwa [bval_nat, Int.toNat_natCast] at this
theorem set_reverse (l : List Int) (p : Nat) (v : Int) (h : p < l.length) : (l.set p v).reverse = l.reverse.set (l.length - 1 - p) v := by
  apply List.ext_getElem?
  intro j
  rcases Nat.lt_or_ge j l.length with hj | hj
  · rw [List.getElem?_reverse (by rw [List.length_set]; exact hj), List.length_set, List.getElem?_set, List.getElem?_set, List.length_reverse]
    by_cases e : p = l.length - 1 - j
    · have e' : l.length - 1 - p = j := by omega
      rw [if_pos e, if_pos h, if_pos e', if_pos (by omega)]
    · have e' : ¬ l.length - 1 - p = j := by omega
      rw [if_neg e, if_neg e', List.getElem?_reverse hj]
  · rw [List.getElem?_eq_none (by simp; omega), List.getElem?_eq_none (by simp; omega)]
theorem pack_l2 (b : List Int) (hd : Dig 256 b) (hb : b.length < 9223372036854775807) (n : Nat) (hv : vB 256 b.reverse = n) (hn : n ≠ 0) : ∀ (d i : Nat), i + d = b.length → (∀ j : Nat, j < i → rd b (j : Int) = 0) → Ev (fun k => exact_pack.l2 k b (i : Int)) (nat n) := by
  intro d
  induction d with
  | zero =>
    intro i hi hz
    have := vB_zero 256 (l := b.reverse) (fun j hj => by
      rw [List.length_reverse] at hj
      rw [rd_reverse _ _ hj]
      exact hz _ (by omega))
    omega
  | succ d ih =>
    intro i hi hz
    by_cases h0 : rd b (i : Int) = 0
    · have e1 : wrap64 ((i : Int) + 1) = ((i + 1 : Nat) : Int) := by rw [w64 (by omega) (by omega)]; omega
      refine Ev.step (f := fun k => exact_pack.l2 k b ((i + 1 : Nat) : Int)) (fun k => ?_) (ih (i + 1) (by omega) (fun j hj => ?_))
      · simp only [exact_pack.l2, e1]
        rw [if_pos (by omega), if_pos (by omega), if_pos h0]
      · rcases Nat.lt_or_ge j i with h | h
        · exact hz j h
        · have : j = i := by omega
          subst this
          exact h0
    · refine Ev.step (f := fun _ => some (nat n)) (fun k => ?_) (Ev.now _)
      simp only [exact_pack.l2]
      rw [if_pos (by omega), if_pos (by omega), if_neg h0, if_pos (by omega), Int.toNat_natCast]
      congr 1
      unfold nat
      congr 1
      have hu : (b.drop i).reverse = d8 n := by
        refine d8_unique (Dig_reverse (Dig_drop hd _)) (fun hp => ?_) ?_
        · rw [List.length_reverse] at hp ⊢
          rw [rd_reverse _ _ (by omega), rd_drop]
          have : i + ((b.drop i).length - 1 - ((b.drop i).length - 1)) = i := by omega
          rw [this]
          exact h0
        · rw [← hv]
          conv => rhs; rw [← List.take_append_drop i b]
          rw [List.reverse_append, vB_append, vB_zero 256 (l := (b.take i).reverse) (fun j hj => ?_)]
          · simp
          · rw [List.length_reverse] at hj
            have hl : (b.take i).length = i := by rw [List.length_take]; omega
            rw [rd_reverse _ _ hj, rd_take _ _ _ (by omega)]
            exact hz _ (by omega)
      rw [← hu, List.reverse_reverse]
theorem byte_of (x : Int) (s : Nat) (hs : s < 8) (h0 : 0 ≤ x) (h1 : x < B64) : shr .u64 x ((8 * s : Nat) : Int) % 256 = x / 256 ^ s % 256 := by
  unfold shr
  rw [Int.toNat_natCast]
  have : min (8 * s) IntKind.u64.bits = 8 * s := Nat.min_eq_left (by show 8 * s ≤ 64; omega)
  rw [this, Int.pow_mul]
  rfl
theorem byte_step (x : Int) (s : Nat) (hs : s < 8) (h0 : 0 ≤ x) (h1 : x < B64) : x % 256 ^ (s + 1) = x % 256 ^ s + 256 ^ s * (x / 256 ^ s % 256) := by
  have : s = 0 ∨ s = 1 ∨ s = 2 ∨ s = 3 ∨ s = 4 ∨ s = 5 ∨ s = 6 ∨ s = 7 := by omega
  rcases this with rfl | rfl | rfl | rfl | rfl | rfl | rfl | rfl <;> simp <;> omega
def Packed (w b : List Int) (i s : Nat) : Prop :=
  b.length = 8 * w.length ∧ Dig 256 b ∧ vB 256 b.reverse = vB B64 (w.take i) + B64 ^ i * (rd w (i : Int) % 256 ^ s) ∧ ∀ j : Nat, 8 * i + s ≤ j → rd b.reverse (j : Int) = 0
theorem packed_step {w b : List Int} {i s : Nat} (hw : Dig B64 w) (hi : i < w.length) (hs : s < 8) (h : Packed w b i s) :
    8 * i + s < b.length ∧ Packed w (b.set (b.length - 1 - (8 * i + s)) (rd w (i : Int) / 256 ^ s % 256)) i (s + 1) := by
  obtain ⟨hl, hd, hv, hz⟩ := h
  obtain ⟨hx0, hx1⟩ := Dig_rd hw i hi
  have hlt : 8 * i + s < b.length := by omega
  refine ⟨hlt, by rw [List.length_set]; exact hl, Dig_set hd _ (Int.emod_nonneg _ (by decide)) (Int.emod_lt_of_pos _ (by decide)), ?_, fun j hj => ?_⟩
  · rw [set_reverse _ _ _ (by omega)]
    have e : b.length - 1 - (b.length - 1 - (8 * i + s)) = 8 * i + s := by omega
    rw [e, vB_set _ _ _ _ (by rw [List.length_reverse]; exact hlt), hz _ (Nat.le_refl _), hv, byte_step _ s hs hx0 hx1, Int.sub_zero, Int.mul_add, ← pow8, Int.mul_assoc, Int.add_assoc]
  · rw [set_reverse _ _ _ (by omega)]
    have e : b.length - 1 - (b.length - 1 - (8 * i + s)) = 8 * i + s := by omega
    rw [e, rd_set_ne _ _ _ _ (by omega)]
    exact hz j (by omega)
theorem packed_word {w b : List Int} {i : Nat} (hw : Dig B64 w) (hi : i < w.length) (h : Packed w b i 8) : Packed w b (i + 1) 0 := by
  obtain ⟨hl, hd, hv, hz⟩ := h
  obtain ⟨hx0, hx1⟩ := Dig_rd hw i hi
  refine ⟨hl, hd, ?_, fun j hj => hz j (by omega)⟩
  rw [hv, vB_take_succ _ _ _ hi]
  have : rd w (i : Int) % 256 ^ 8 = rd w (i : Int) := Int.emod_eq_of_lt hx0 hx1
  rw [this]
  simp
theorem pack_l1 (w : List Int) (hw : Dig B64 w) (hl : w.length ≤ 1099511627776) (i : Nat) (hi : i < w.length) (r : ByteArray)
    (next : ∀ b, Packed w b (i + 1) 0 → Ev (fun k => exact_pack.l0 k b w (w.length : Int) ((i + 1 : Nat) : Int)) r) : ∀ (d s : Nat) (b : List Int), s + d = 8 → Packed w b i s →
    Ev (fun k => exact_pack.l1 k b (i : Int) (rd w (i : Int)) w (w.length : Int) (i : Int) (s : Int)) r := by
  obtain ⟨hx0, hx1⟩ := Dig_rd hw i hi
  intro d
  induction d with
  | zero =>
    intro s b hs hp
    have hs : s = 8 := by omega
    subst hs
    refine Ev.step (f := fun k => exact_pack.l0 k b w (w.length : Int) ((i + 1 : Nat) : Int)) (fun k => ?_) (next b (packed_word hw hi hp))
    have c1 : ¬ ((8 : Nat) : Int) < 8 := by omega
    have e1 : wrap64 ((i : Int) + 1) = ((i + 1 : Nat) : Int) := by rw [w64 (by omega) (by omega)]; omega
    simp only [exact_pack.l1, e1]
    rw [if_neg c1]
  | succ d ih =>
    intro s b hs hp
    have hlb := hp.1
    obtain ⟨hlt, hp'⟩ := packed_step hw hi (by omega) hp
    refine Ev.step (f := fun k => exact_pack.l1 k (b.set (b.length - 1 - (8 * i + s)) (rd w (i : Int) / 256 ^ s % 256)) (i : Int) (rd w (i : Int)) w (w.length : Int) (i : Int) ((s + 1 : Nat) : Int)) (fun k => ?_) (ih (s + 1) _ (by omega) hp')
    have c1 : ((s : Nat) : Int) < 8 := by omega
    have c2 : ((b.length - 1 - (8 * i + s) : Nat) : Int) < (b.length : Int) := by omega
    have e0 := byte_of _ s (by omega) hx0 hx1
    have e1 : wrap64 (8 * (s : Int)) = ((8 * s : Nat) : Int) := by rw [w64 (by omega) (by omega)]; omega
    have e2 : wrap64 (wrap64 (wrap64 ((b.length : Int) - 1) - ((8 * i : Nat) : Int)) - (s : Int)) = ((b.length - 1 - (8 * i + s) : Nat) : Int) := by
      clear e1 e0
      rw [w64 (x := (b.length : Int) - 1) (by omega) (by omega), w64 (x := (b.length : Int) - 1 - ((8 * i : Nat) : Int)) (by omega) (by omega), w64 (by omega) (by omega)]
      omega
    have e4 : wrap64 (8 * (i : Int)) = ((8 * i : Nat) : Int) := by clear e0 e1 e2; rw [w64 (by omega) (by omega)]; omega
    have e3 : wrap64 ((s : Int) + 1) = ((s + 1 : Nat) : Int) := by clear e0 e1 e2 e4; rw [w64 (by omega) (by omega)]; omega
    simp only [exact_pack.l1, e1, e4, e2, e3]
    rw [if_pos c1, if_pos (Int.natCast_nonneg _), if_pos (Int.natCast_nonneg _), if_pos c2, Int.toNat_natCast, e0]
theorem pack_l0 (w : List Int) (hw : Dig B64 w) (hl : w.length ≤ 1099511627776) (n : Nat) (hv : vB B64 w = n) (hn : n ≠ 0) : ∀ (d i : Nat) (b : List Int), i + d = w.length → Packed w b i 0 → Ev (fun k => exact_pack.l0 k b w (w.length : Int) (i : Int)) (nat n) := by
  intro d
  induction d with
  | zero =>
    intro i b hi hp
    obtain ⟨h1, h2, h3, h4⟩ := hp
    have hi : i = w.length := by omega
    subst hi
    have e : vB 256 b.reverse = n := by
      rw [h3, List.take_of_length_le (Nat.le_refl _), hv]
      simp
    refine Ev.step (f := fun k => exact_pack.l2 k b ((0 : Nat) : Int)) (fun k => ?_) (pack_l2 b h2 (by omega) n e hn b.length 0 (by omega) (fun j hj => absurd hj (by omega)))
    simp only [exact_pack.l0]
    rw [if_neg (by omega)]
    rfl
  | succ d ih =>
    intro i b hi hp
    refine Ev.step (f := fun k => exact_pack.l1 k b (i : Int) (rd w (i : Int)) w (w.length : Int) (i : Int) ((0 : Nat) : Int)) (fun k => ?_) (pack_l1 w hw hl i (by omega) (nat n) (fun b' hp' => ih (i + 1) b' (by omega) hp') 8 0 b (by omega) hp)
    simp only [exact_pack.l0]
    rw [if_pos (by omega), if_pos (by omega), if_pos (by omega)]
    rfl
theorem pack_ev {l : List Int} (hd : Dig B64 l) (hl : l.length ≤ 1099511627776) : Ev (fun k => exact_pack.f k l) (nat (vB B64 l).toNat) := by
  have hv := vB_nonneg (by decide) hd
  have ht : (d64 (vB B64 l).toNat).length ≤ l.length := dgs_len (by
    have := vB_lt (by decide) hd
    have h1 : (((vB B64 l).toNat : Nat) : Int) < ((18446744073709551614 + 2 : Nat) : Int) ^ l.length := by
      rw [Int.toNat_of_nonneg hv]
      exact this
    exact_mod_cast h1)
  refine Ev.congr (f := fun k => (exact_trim.f k l).bind fun t => if (t.length : Int) = 0 then some (⟨#[]⟩ : ByteArray) else if 0 ≤ wrap64 (8 * (t.length : Int)) then (if (wrap64 (8 * (t.length : Int)) : Int).toNat ≤ 281474976710656 then exact_pack.l0 k (List.replicate (wrap64 (8 * (t.length : Int)) : Int).toNat 0) t (t.length : Int) 0 else none) else none) (fun k => rfl) (Ev.bind (trim_ev hd (by omega)) ?_)
  generalize hn : (vB B64 l).toNat = n at *
  by_cases h0 : n = 0
  · subst h0
    rw [d64_zero, nat_zero]
    exact Ev.now _
  · have hne : (d64 n).length ≠ 0 := by
      intro h
      have := d64_val n
      rw [List.eq_nil_of_length_eq_zero h] at this
      simp [vB] at this
      omega
    have e1 : wrap64 (8 * ((d64 n).length : Int)) = ((8 * (d64 n).length : Nat) : Int) := by rw [w64 (by omega) (by omega)]; omega
    refine Ev.congr (f := fun k => exact_pack.l0 k (List.replicate (8 * (d64 n).length) 0) (d64 n) ((d64 n).length : Int) ((0 : Nat) : Int)) (fun k => ?_) (pack_l0 (d64 n) (d64_dig n) (by omega) n (d64_val n) h0 (d64 n).length 0 _ (by omega) ⟨by simp, Dig_replicate (by decide) _, ?_, fun j _ => ?_⟩)
    · rw [e1, if_neg (by omega), if_pos (by omega), Int.toNat_natCast, if_pos (by omega)]
      rfl
    · rw [List.reverse_replicate, vB_replicate]
      simp [vB]
    · rw [List.reverse_replicate, rd_replicate]
end Go.Proofs.YtohkmnbnjacfaaaN
set_option linter.unusedVariables false
namespace Go.Proofs.YtohkmnbnjacfaaaN
open Go.RowKit Go.Proofs.Ytohkmnbnjacfaaa.All Go.Proofs.YtohkmnbnjacfaaaW.PrintWords Go.Proofs.YtohkmnbnjacfaaaW.PrintLast Go.Proofs.YtohkmnbnjacfaaaW.PrintMore
theorem mul_range {a b A B : Int} (a0 : 0 ≤ a) (a1 : a ≤ A) (b0 : 0 ≤ b) (b1 : b ≤ B) : 0 ≤ a * b ∧ a * b ≤ A * B :=
  ⟨Int.mul_nonneg a0 b0, Int.le_trans (Int.mul_le_mul_of_nonneg_left b1 a0) (Int.mul_le_mul_of_nonneg_right a1 (by omega))⟩
theorem and_low {x : Int} (h0 : 0 ≤ x) (h1 : x < B64) : Go.bits .and .u64 x 4294967295 = x % 4294967296 :=
  bits_mask .u64 64 (by decide) wraps_u64 32 (by decide) x h0 (by simpa using h1)
theorem mul64_eq {x y : Int} (x0 : 0 ≤ x) (x1 : x < B64) (y0 : 0 ≤ y) (y1 : y < B64) : bits_Mul64.f x y = some (x * y / B64, x * y % B64) := by
  have x1' : x < 18446744073709551616 := x1
  have y1' : y < 18446744073709551616 := y1
  show bits_Mul64.f x y = some (x * y / 18446744073709551616, x * y % 18446744073709551616)
  obtain ⟨a, ha⟩ : ∃ a, a = x / 4294967296 := ⟨_, rfl⟩
  obtain ⟨b, hb⟩ : ∃ b, b = x % 4294967296 := ⟨_, rfl⟩
  obtain ⟨c, hc⟩ : ∃ c, c = y / 4294967296 := ⟨_, rfl⟩
  obtain ⟨d, hd⟩ : ∃ d, d = y % 4294967296 := ⟨_, rfl⟩
  have hx : x = a * 4294967296 + b := by omega
  have hy : y = c * 4294967296 + d := by omega
  have a0 : 0 ≤ a ∧ a ≤ 4294967295 := by omega
  have b0 : 0 ≤ b ∧ b ≤ 4294967295 := by omega
  have c0 : 0 ≤ c ∧ c ≤ 4294967295 := by omega
  have d0 : 0 ≤ d ∧ d ≤ 4294967295 := by omega
  have hac := mul_range a0.1 a0.2 c0.1 c0.2
  have had := mul_range a0.1 a0.2 d0.1 d0.2
  have hbc := mul_range b0.1 b0.2 c0.1 c0.2
  have hbd := mul_range b0.1 b0.2 d0.1 d0.2
  have hp : x * y = a * c * 18446744073709551616 + (a * d + b * c) * 4294967296 + b * d := by
    rw [hx, hy, Int.add_mul, Int.mul_add, Int.mul_add, Int.add_mul]
    have e1 : a * 4294967296 * (c * 4294967296) = a * c * 18446744073709551616 := by
      rw [Int.mul_assoc, Int.mul_left_comm 4294967296 c, Int.mul_assoc a c]
      congr 1
    have e2 : a * 4294967296 * d = a * d * 4294967296 := by rw [Int.mul_assoc, Int.mul_comm 4294967296 d, ← Int.mul_assoc]
    have e3 : b * (c * 4294967296) = b * c * 4294967296 := by rw [Int.mul_assoc]
    rw [e1, e2, e3]
    omega
  unfold bits_Mul64.f
  rw [and_low x0 x1, and_low y0 y1, ← ha, ← hb, ← hc, ← hd, hp]
  generalize hA : a * c = p at *
  generalize hD : a * d = q at *
  generalize hC : b * c = r at *
  generalize hE : b * d = s at *
  clear hA hD hC hE hp hx hy ha hb hc hd x0 x1 y0 y1 x1' y1'
  have h1 : (4294967295 : Int) * 4294967295 = 18446744065119617025 := rfl
  rw [h1] at *
  rw [u64 (x := s) (by omega) (by omega), u64 (x := q) (by omega) (by omega), u64 (x := q + s / 4294967296) (by omega) (by omega), and_low (x := q + s / 4294967296) (by omega) (by show _ < (18446744073709551616 : Int); omega),
    u64 (x := r) (by omega) (by omega), u64 (x := (q + s / 4294967296) % 4294967296 + r) (by omega) (by omega), u64 (x := p) (by omega) (by omega),
    u64 (x := p + (q + s / 4294967296) / 4294967296) (by omega) (by omega)]
  have e : p + (q + s / 4294967296) / 4294967296 + ((q + s / 4294967296) % 4294967296 + r) / 4294967296 = (p * 18446744073709551616 + (q + r) * 4294967296 + s) / 18446744073709551616 := by omega
  rw [e, u64 (x := (p * 18446744073709551616 + (q + r) * 4294967296 + s) / 18446744073709551616) (by clear e; omega) (by clear e; omega), u64_mod]
theorem add64_eq {x y c : Int} (x0 : 0 ≤ x) (y0 : 0 ≤ y) (c0 : 0 ≤ c) (c1 : c ≤ 1) : bits_Add64.f x y c = some ((x + y + c) % B64, (x + y + c) / B64) := by
  unfold bits_Add64.f
  rw [if_pos ⟨x0, y0, c0, c1⟩]
theorem sub64_eq {x y c : Int} (x0 : 0 ≤ x) (x1 : x < B64) (y0 : 0 ≤ y) (y1 : y < B64) (c0 : 0 ≤ c) (c1 : c ≤ 1) : ∃ d e, bits_Sub64.f x y c = some (d, e) ∧ 0 ≤ d ∧ d < B64 ∧ 0 ≤ e ∧ e ≤ 1 ∧ d = x - y - c + B64 * e := by
  have x1' : x < 18446744073709551616 := x1
  have y1' : y < 18446744073709551616 := y1
  unfold bits_Sub64.f
  rw [if_pos ⟨x0, y0, by omega, c0, c1⟩]
  refine ⟨_, _, rfl, Int.emod_nonneg _ (by decide), Int.emod_lt_of_pos _ (by decide), ?_, ?_, ?_⟩
  · split <;> decide
  · split <;> decide
  · show (x - y - c) % 18446744073709551616 = x - y - c + 18446744073709551616 * _
    split <;> omega
theorem mul_add {x y o c : Int} (x0 : 0 ≤ x) (x1 : x < B64) (y0 : 0 ≤ y) (y1 : y < B64) (o0 : 0 ≤ o) (o1 : o < B64) (c0 : 0 ≤ c) (c1 : c < B64) :
    IntKind.u64.wrap (IntKind.u64.wrap (x * y / B64 + (x * y % B64 + o + 0) / B64) + ((x * y % B64 + o + 0) % B64 + c + 0) / B64) = (x * y + o + c) / B64 ∧ ((x * y % B64 + o + 0) % B64 + c + 0) % B64 = (x * y + o + c) % B64 ∧ 0 ≤ (x * y + o + c) / B64 ∧ (x * y + o + c) / B64 < B64 := by
  have x1' : x < 18446744073709551616 := x1
  have y1' : y < 18446744073709551616 := y1
  have o1' : o < 18446744073709551616 := o1
  have c1' : c < 18446744073709551616 := c1
  have hp := mul_range x0 (show x ≤ 18446744073709551615 by omega) y0 (show y ≤ 18446744073709551615 by omega)
  have h1 : (18446744073709551615 : Int) * 18446744073709551615 = 340282366920938463426481119284349108225 := rfl
  rw [h1] at hp
  show IntKind.u64.wrap (IntKind.u64.wrap (x * y / 18446744073709551616 + (x * y % 18446744073709551616 + o + 0) / 18446744073709551616) + ((x * y % 18446744073709551616 + o + 0) % 18446744073709551616 + c + 0) / 18446744073709551616) = (x * y + o + c) / 18446744073709551616 ∧ ((x * y % 18446744073709551616 + o + 0) % 18446744073709551616 + c + 0) % 18446744073709551616 = (x * y + o + c) % 18446744073709551616 ∧ 0 ≤ (x * y + o + c) / 18446744073709551616 ∧ (x * y + o + c) / 18446744073709551616 < 18446744073709551616
  generalize x * y = p at *
  clear x0 x1 x1' y0 y1 y1' o1 c1 h1
  have a1 : 0 ≤ p / 18446744073709551616 + (p % 18446744073709551616 + o + 0) / 18446744073709551616 ∧ p / 18446744073709551616 + (p % 18446744073709551616 + o + 0) / 18446744073709551616 < 18446744073709551616 := by omega
  rw [u64 a1.1 a1.2]
  have a2 : p / 18446744073709551616 + (p % 18446744073709551616 + o + 0) / 18446744073709551616 + ((p % 18446744073709551616 + o + 0) % 18446744073709551616 + c + 0) / 18446744073709551616 = (p + o + c) / 18446744073709551616 := by omega
  have a3 : 0 ≤ (p + o + c) / 18446744073709551616 ∧ (p + o + c) / 18446744073709551616 < 18446744073709551616 := by omega
  rw [a2, u64 a3.1 a3.2]
  refine ⟨rfl, by omega, a3.1, a3.2⟩
theorem take_succ (B : Int) (l : List Int) (i : Nat) : vB B (l.take (i + 1)) = vB B (l.take i) + B ^ i * rd l (i : Int) := by
  rcases Nat.lt_or_ge i l.length with h | h
  · exact vB_take_succ B l i h
  · rw [List.take_of_length_le (by omega), List.take_of_length_le h, rd_nat, List.getD_eq_getElem?_getD, List.getElem?_eq_none h]
    simp
theorem vB_all (B : Int) (l : List Int) (i : Nat) (h : l.length ≤ i) : vB B (l.take i) = vB B l := by rw [List.take_of_length_le h]
end Go.Proofs.YtohkmnbnjacfaaaN
set_option linter.unusedVariables false
namespace Go.Proofs.YtohkmnbnjacfaaaN
open Go.RowKit Go.Proofs.Ytohkmnbnjacfaaa.All Go.Proofs.YtohkmnbnjacfaaaW.PrintWords Go.Proofs.YtohkmnbnjacfaaaW.PrintLast Go.Proofs.YtohkmnbnjacfaaaW.PrintMore
theorem size_mono {m n : Nat} (h : m ≤ n) : (nat m).size ≤ (nat n).size := nat_size_le.2 (Nat.lt_of_le_of_lt h (nat_lt_size n))
theorem words_len (n : Nat) : (d64 n).length ≤ ((nat n).size + 7) / 8 := by
  apply dgs_len
  have h1 := nat_lt_size n
  have h2 : 256 ^ (nat n).size ≤ 256 ^ (8 * (((nat n).size + 7) / 8)) := Nat.pow_le_pow_right (by decide) (by omega)
  rw [Nat.pow_mul] at h2
  exact Nat.lt_of_lt_of_le h1 h2
theorem add_range {x y c : Int} (x0 : 0 ≤ x) (x1 : x < B64) (y0 : 0 ≤ y) (y1 : y < B64) (c0 : 0 ≤ c) (c1 : c ≤ 1) : 0 ≤ (x + y + c) / B64 ∧ (x + y + c) / B64 ≤ 1 := by
  have x1' : x < 18446744073709551616 := x1
  have y1' : y < 18446744073709551616 := y1
  show 0 ≤ (x + y + c) / 18446744073709551616 ∧ (x + y + c) / 18446744073709551616 ≤ 1
  omega
theorem d64_len_mono {m n : Nat} (h : m ≤ n) : (d64 m).length ≤ (d64 n).length := dgs_len (Nat.lt_of_le_of_lt h (dgs_lt 18446744073709551614 n))
def cmpN (m n : Nat) : Int := if m < n then -1 else if m = n then 0 else 1
def chk (s : ByteArray) : Int := if 0 < s.size ∧ bt s 0 = 0 then 1 else if 1024 < s.size then 4 else 0
theorem Check_ev (s : ByteArray) : Ev (fun k => natural_Check.f k s) (chk s) := by
  have hj : ∀ b : Bool, (b = true ↔ 0 < s.size ∧ bt s 0 = 0) → Ev (fun k => natural_Check.j0 k s b) (chk s) := by
    intro b hb
    refine Ev.step (f := fun _ => some (chk s)) (fun k => ?_) (Ev.now _)
    unfold chk
    simp only [natural_Check.j0]
    by_cases h : b = true
    · rw [if_pos h, if_pos (hb.1 h)]
    · rw [if_neg h, if_neg (fun h' => h (hb.2 h'))]
      by_cases h3 : 1024 < s.size
      · rw [if_pos (by omega), if_pos h3]
      · rw [if_neg (by omega), if_neg h3]
  by_cases h : 0 < s.size
  · refine Ev.congr (f := fun k => natural_Check.j0 k s (bt s 0 == 0)) (fun k => ?_) (hj _ (by simp [h]))
    unfold natural_Check.f
    rw [if_pos (by omega), if_pos (by omega)]
  · refine Ev.congr (f := fun k => natural_Check.j0 k s false) (fun k => ?_) (hj _ (by simp [h]))
    unfold natural_Check.f
    rw [if_neg (by omega)]
theorem chk_nat {n : Nat} (h : (nat n).size ≤ 1024) : chk (nat n) = 0 := by
  unfold chk
  rw [if_neg, if_neg (by omega)]
  rintro ⟨h1, h2⟩
  rcases nat_wf n with h3 | h3
  · omega
  · exact h3 h2
theorem chk_zero {s : ByteArray} (h : chk s = 0) : s = nat (bval s).toNat ∧ s.size ≤ 1024 := by
  unfold chk at h
  by_cases h1 : 0 < s.size ∧ bt s 0 = 0
  · rw [if_pos h1] at h; omega
  · rw [if_neg h1] at h
    refine ⟨wf_nat ?_, ?_⟩
    · rcases Nat.eq_zero_or_pos s.size with h2 | h2
      · exact Or.inl h2
      · exact Or.inr (fun h3 => h1 ⟨h2, h3⟩)
    · rcases Nat.lt_or_ge 1024 s.size with h2 | h2
      · rw [if_pos h2] at h; omega
      · exact h2
def firstErr : List ByteArray → Int
  | [] => 0
  | s :: l => if chk s = 0 then firstErr l else chk s
theorem first_l0 (l : List ByteArray) (hl : l.length < 9223372036854775808) : ∀ (d i : Nat), i + d = l.length → Ev (fun k => natural_first.l0 k l (l.length : Int) (i : Int)) (firstErr (l.drop i)) := by
  intro d
  induction d with
  | zero =>
    intro i hi
    rw [List.drop_of_length_le (by omega)]
    refine Ev.step (f := fun _ => some 0) (fun k => ?_) (Ev.now _)
    simp only [natural_first.l0]
    rw [if_neg (by omega)]
  | succ d ih =>
    intro i hi
    have hi' : i < l.length := by omega
    have e1 : wrap64 ((i : Int) + 1) = ((i + 1 : Nat) : Int) := by rw [w64 (by omega) (by omega)]; omega
    have e2 : rdOf ByteArray.empty l (i : Int) = l[i] := by
      unfold rdOf
      rw [Int.toNat_natCast, List.getD_eq_getElem?_getD, List.getElem?_eq_getElem hi']
      rfl
    rw [List.drop_eq_getElem_cons hi', firstErr]
    refine Ev.step (f := fun k => (natural_Check.f k l[i]).bind fun t => if t = 0 then natural_first.l0 k l (l.length : Int) ((i + 1 : Nat) : Int) else some t) (fun k => ?_) (Ev.bind (Check_ev _) ?_)
    · simp only [natural_first.l0, e1, e2]
      rw [if_pos (by omega), if_pos (by omega), if_pos (by omega)]
    · by_cases h : chk l[i] = 0
      · rw [if_pos h]
        exact Ev.congr (fun k => if_pos h) (ih (i + 1) (by omega))
      · rw [if_neg h]
        exact Ev.congr (f := fun _ => some (chk l[i])) (fun k => if_neg h) (Ev.now _)
theorem first_ev (l : List ByteArray) (hl : l.length < 9223372036854775808) : Ev (fun k => natural_first.f k l) (firstErr l) := first_l0 l hl l.length 0 (by omega)
theorem first2 (a b : ByteArray) : Ev (fun k => natural_first.f k [a, b]) (firstErr [a, b]) := first_ev _ (by simp)
theorem firstErr_ok {m n : Nat} (hm : (nat m).size ≤ 1024) (hn : (nat n).size ≤ 1024) : firstErr [nat m, nat n] = 0 := by simp [firstErr, chk_nat hm, chk_nat hn]
def bnd (n : Nat) : ByteArray × Int := if 1024 < (nat n).size then (⟨#[]⟩, 4) else (nat n, 0)
theorem bnd_ok {n : Nat} (h : (nat n).size ≤ 1024) : bnd n = (nat n, 0) := by
  unfold bnd
  rw [if_neg (by omega)]
end Go.Proofs.YtohkmnbnjacfaaaN
set_option linter.unusedVariables false
namespace Go.Proofs.YtohkmnbnjacfaaaN
open Go.RowKit Go.Proofs.Ytohkmnbnjacfaaa.All Go.Proofs.YtohkmnbnjacfaaaW.PrintWords Go.Proofs.YtohkmnbnjacfaaaW.PrintLast Go.Proofs.YtohkmnbnjacfaaaW.PrintMore
theorem ev_some {α β : Type} {o : Option α} {f : Nat → α → Option β} {a : α} {r : β} (h : o = some a) (k : Ev (fun n => f n a) r) : Ev (fun n => o.bind (f n)) r := by subst h; exact k
theorem awake_ev : Ev (fun k => galoislaw01_awake.f k) true := Ev.of (fun k => galoislaw01_awake.mono k) (k := 60) (by decide +kernel)
theorem long_eq (a b : ByteArray) (n : Int) : galoislaw01_long.f a b n = some (decide ((a.size : Int) > n) || decide ((b.size : Int) > n)) := by
  unfold galoislaw01_long.f
  by_cases h : (a.size : Int) > n
  · rw [if_pos h, decide_eq_true h]
    rfl
  · rw [if_neg h, decide_eq_false h]
    rfl
theorem refCheck_eq (s : ByteArray) : galoisref01_Check.f s = some (chk s) := by
  have hv : galoisref01_Valid.f s = some (decide (s.size = 0 ∨ bt s 0 ≠ 0)) := by
    unfold galoisref01_Valid.f
    by_cases h : s.size = 0
    · rw [if_pos (toList_nil.2 h)]
      simp [h]
    · rw [if_neg (fun h' => h (toList_nil.1 h')), if_pos (by omega)]
      by_cases h2 : bt s 0 = 0 <;> simp [h, h2]
  unfold galoisref01_Check.f
  rw [hv, Option.bind_some]
  unfold chk galoisref01_Fits.f
  by_cases h : s.size = 0 ∨ bt s 0 ≠ 0
  · have hn : ¬ (0 < s.size ∧ bt s 0 = 0) := by
      intro h1
      rcases h with h | h
      · exact Nat.ne_of_gt h1.1 h
      · exact h h1.2
    rw [if_pos (decide_eq_true h), if_neg hn]
    by_cases h3 : 1024 < s.size
    · rw [if_pos (show (s.size : Int) > 1024 by omega), if_pos h3]
      rfl
    · rw [if_neg (show ¬ (s.size : Int) > 1024 by omega), if_neg h3]
      rfl
  · have hn : 0 < s.size ∧ bt s 0 = 0 := by
      refine ⟨Nat.pos_of_ne_zero fun h1 => h (Or.inl h1), ?_⟩
      rcases Decidable.em (bt s 0 = 0) with h2 | h2
      · exact h2
      · exact absurd (Or.inr h2) h
    rw [if_neg (by rw [decide_eq_true_eq]; exact h), if_pos hn]
theorem expected_eq (a b : ByteArray) : galoislaw01_expected.f a b = some (if chk a = 0 then chk b else chk a) := by
  unfold galoislaw01_expected.f
  rw [refCheck_eq, refCheck_eq, Option.bind_some]
  by_cases h : chk a = 0
  · rw [if_pos h, if_pos h]
    rfl
  · rw [if_neg h, if_neg h]
    rfl
theorem number {s : ByteArray} (h : chk s = 0) : ∃ n, s = nat n ∧ (nat n).size ≤ 1024 := by
  obtain ⟨h1, h2⟩ := chk_zero h
  exact ⟨_, h1, by rw [← h1]; exact h2⟩
end Go.Proofs.YtohkmnbnjacfaaaN
set_option linter.unusedVariables false
namespace Go.Proofs.YtohkmnbnjacfaaaN
open Go.RowKit Go.Proofs.Ytohkmnbnjacfaaa.All Go.Proofs.YtohkmnbnjacfaaaW.PrintWords Go.Proofs.YtohkmnbnjacfaaaW.PrintLast Go.Proofs.YtohkmnbnjacfaaaW.PrintMore
theorem shl_eq (x : Int) (s : Nat) (hs : s ≤ 64) : shl .u64 x (s : Int) = (x * 2 ^ s) % 18446744073709551616 := by
  unfold shl
  rw [Int.toNat_natCast, u64_mod, show min s IntKind.u64.bits = s from Nat.min_eq_left hs]
theorem shr_eq (x : Int) (s : Nat) (hs : s ≤ 64) : shr .u64 x (s : Int) = x / 2 ^ s := by
  unfold shr
  rw [Int.toNat_natCast, show min s IntKind.u64.bits = s from Nat.min_eq_left hs]
theorem norm_word {y : Int} (y0 : 0 < y) (y1 : y < B64) : ∃ s : Nat, s ≤ 63 ∧ bits_LeadingZeros64.f y = some (s : Int) ∧ 9223372036854775808 ≤ y * 2 ^ s ∧ y * 2 ^ s < 18446744073709551616 := by
  have y1' : y < 18446744073709551616 := y1
  obtain ⟨n, rfl⟩ := Int.eq_ofNat_of_zero_le (Int.le_of_lt y0)
  have hn : n < 2 ^ 64 := by omega
  obtain ⟨h1, h2, h3⟩ := Lib.bitLenAux_bounds 64 n hn (by omega)
  have h4 : Lib.bitLen n ≤ 64 := Lib.bitLen_le n 64 (by decide) hn
  have e : Lib.bitLenAux 64 n = Lib.bitLen n := rfl
  rw [e] at h1 h2 h3
  generalize hL : Lib.bitLen n = L at *
  refine ⟨64 - L, by omega, ?_, ?_, ?_⟩
  · unfold bits_LeadingZeros64.f bits_Len64.f
    rw [if_pos (by omega), Option.bind_some, Int.toNat_natCast, hL, w64 (by omega) (by omega)]
    congr 1
    omega
  · have h5 : 2 ^ (L - 1) * 2 ^ (64 - L) = 2 ^ 63 := by rw [← Nat.pow_add]; congr 1; omega
    have h6 := Nat.mul_le_mul_right (2 ^ (64 - L)) h2
    rw [h5] at h6
    have e1 : (n : Int) * 2 ^ (64 - L) = ((n * 2 ^ (64 - L) : Nat) : Int) := by rw [Int.natCast_mul, Int.natCast_pow]; rfl
    rw [e1]
    generalize n * 2 ^ (64 - L) = M at *
    omega
  · have h5 : 2 ^ L * 2 ^ (64 - L) = 2 ^ 64 := by rw [← Nat.pow_add]; congr 1; omega
    have h6 := Nat.mul_lt_mul_of_pos_right h3 (Nat.two_pow_pos (64 - L))
    rw [h5] at h6
    have e1 : (n : Int) * 2 ^ (64 - L) = ((n * 2 ^ (64 - L) : Nat) : Int) := by rw [Int.natCast_mul, Int.natCast_pow]; rfl
    rw [e1]
    generalize n * 2 ^ (64 - L) = M at *
    omega
def Half (y1 U Q q r : Int) : Prop := Q ≤ q ∧ q * y1 + r = U ∧ 0 ≤ r ∧ r < 4294967296 ∧ q ≤ 4294967297
theorem half_le {y1 y0 U u q r : Int} (hy : 0 < y1 * 4294967296 + y0) (he : q * y1 + r = U) (h : q * y0 ≤ 4294967296 * r + u) : q ≤ (U * 4294967296 + u) / (y1 * 4294967296 + y0) := by
  apply Int.le_ediv_of_mul_le hy
  have : q * (y1 * 4294967296 + y0) = q * y1 * 4294967296 + q * y0 := by rw [Int.mul_add, Int.mul_assoc]
  omega
theorem half_gt {y1 y0 U u q r : Int} (hy : 0 < y1 * 4294967296 + y0) (he : q * y1 + r = U) (h : 4294967296 * r + u < q * y0) : (U * 4294967296 + u) / (y1 * 4294967296 + y0) ≤ q - 1 := by
  have : (U * 4294967296 + u) / (y1 * 4294967296 + y0) < q := by
    apply Int.ediv_lt_of_lt_mul hy
    have : q * (y1 * 4294967296 + y0) = q * y1 * 4294967296 + q * y0 := by rw [Int.mul_add, Int.mul_assoc]
    omega
  omega
theorem half_lt {y1 y0 U u : Int} (hy : 0 < y1 * 4294967296 + y0) (hU : U < y1 * 4294967296 + y0) (u1 : u < 4294967296) : (U * 4294967296 + u) / (y1 * 4294967296 + y0) < 4294967296 := by
  apply Int.ediv_lt_of_lt_mul hy
  omega
theorem half_start {y1 y0 U u : Int} (h1 : 2147483648 ≤ y1) (h2 : y1 < 4294967296) (h3 : 0 ≤ y0) (h4 : y0 < 4294967296) (U0 : 0 ≤ U) (hU : U < y1 * 4294967296 + y0) (u0 : 0 ≤ u) (u1 : u < 4294967296) :
    Half y1 U ((U * 4294967296 + u) / (y1 * 4294967296 + y0)) (U / y1) (U % y1) ∧ 0 ≤ U / y1 := by
  have hy : 0 < y1 * 4294967296 + y0 := by omega
  have hQ0 : 0 ≤ (U * 4294967296 + u) / (y1 * 4294967296 + y0) := Int.ediv_nonneg (by omega) (by omega)
  have hq0 : 0 ≤ U / y1 := Int.ediv_nonneg U0 (by omega)
  have e := Int.emod_add_mul_ediv U y1
  have hr := Int.emod_lt_of_pos U (show 0 < y1 by omega)
  have hr0 := Int.emod_nonneg U (show y1 ≠ 0 by omega)
  refine ⟨⟨?_, by rw [Int.mul_comm]; omega, hr0, by omega, ?_⟩, hq0⟩
  · apply Int.le_ediv_of_mul_le (by omega)
    have h5 := Int.ediv_mul_le (U * 4294967296 + u) (show y1 * 4294967296 + y0 ≠ 0 by omega)
    generalize (U * 4294967296 + u) / (y1 * 4294967296 + y0) = Q at *
    rw [Int.mul_add, ← Int.mul_assoc] at h5
    have h6 := Int.mul_nonneg hQ0 h3
    omega
  · have : U / y1 < 4294967298 := by
      apply Int.ediv_lt_of_lt_mul (by omega)
      omega
    omega
theorem half_step {y1 y0 U u q r : Int} (h1 : 2147483648 ≤ y1) (h2 : y1 < 4294967296) (h3 : 0 ≤ y0) (h4 : y0 < 4294967296) (hU : U < y1 * 4294967296 + y0) (u0 : 0 ≤ u) (u1 : u < 4294967296)
    (h : Half y1 U ((U * 4294967296 + u) / (y1 * 4294967296 + y0)) q r) (ht : 4294967296 ≤ q ∨ 4294967296 * r + u < q * y0) :
    (4294967296 ≤ r + y1 → q - 1 = (U * 4294967296 + u) / (y1 * 4294967296 + y0)) ∧ (r + y1 < 4294967296 → Half y1 U ((U * 4294967296 + u) / (y1 * 4294967296 + y0)) (q - 1) (r + y1)) := by
  obtain ⟨a1, a2, a3, a4, a5⟩ := h
  have hy : 0 < y1 * 4294967296 + y0 := by omega
  have b1 : (U * 4294967296 + u) / (y1 * 4294967296 + y0) ≤ q - 1 := by
    rcases ht with ht | ht
    · have := half_lt hy hU u1
      omega
    · exact half_gt hy a2 ht
  have b2 : (q - 1) * y1 + (r + y1) = U := by rw [Int.sub_mul, Int.one_mul]; omega
  refine ⟨fun h5 => ?_, fun h5 => ⟨b1, b2, by omega, h5, by omega⟩⟩
  have h6 : (q - 1) * y0 ≤ 4294967296 * 4294967295 := by
    refine Int.le_trans (Int.mul_le_mul_of_nonneg_right (show q - 1 ≤ 4294967296 by omega) h3) ?_
    omega
  have b3 := half_le (u := u) hy b2 (by omega)
  omega
theorem half_done {y1 y0 U u q r : Int} (hy : 0 < y1 * 4294967296 + y0) (h : Half y1 U ((U * 4294967296 + u) / (y1 * 4294967296 + y0)) q r) (ht : ¬ 4294967296 * r + u < q * y0) : q = (U * 4294967296 + u) / (y1 * 4294967296 + y0) := by
  obtain ⟨a1, a2, a3, a4, a5⟩ := h
  have := half_le (u := u) hy a2 (by omega)
  omega
theorem half_test {q y0 r u : Int} (q0 : 0 ≤ q) (q1 : q < 4294967296) (h3 : 0 ≤ y0) (h4 : y0 < 4294967296) (r0 : 0 ≤ r) (r1 : r < 4294967296) (u0 : 0 ≤ u) (u1 : u < 4294967296) :
    IntKind.u64.wrap (q * y0) = q * y0 ∧ IntKind.u64.wrap (IntKind.u64.wrap (4294967296 * r) + u) = 4294967296 * r + u := by
  have h := mul_range q0 (show q ≤ 4294967295 by omega) h3 (show y0 ≤ 4294967295 by omega)
  rw [u64 (x := 4294967296 * r) (by omega) (by omega)]
  exact ⟨u64 h.1 (by omega), u64 (by omega) (by omega)⟩
theorem div_l1 {y s y1 y0 : Int} (h1 : 2147483648 ≤ y1) (h2 : y1 < 4294967296) (h3 : 0 ≤ y0) (h4 : y0 < 4294967296) (s0 : 0 ≤ s) {U u Q1 : Int} (U0 : 0 ≤ U) (hU : U < y1 * 4294967296 + y0) (u0 : 0 ≤ u) (u1 : u < 4294967296) : ∀ (d : Nat) (q r : Int), q = (U * 4294967296 + u) / (y1 * 4294967296 + y0) + d → Half y1 U ((U * 4294967296 + u) / (y1 * 4294967296 + y0)) q r →
    Ev (fun k => bits_Div64.l1 k y s y1 y0 u Q1 r U q) (IntKind.u64.wrap ((IntKind.u64.wrap (Q1 * 4294967296)) + ((U * 4294967296 + u) / (y1 * 4294967296 + y0))), shr .u64 (IntKind.u64.wrap ((IntKind.u64.wrap ((IntKind.u64.wrap (U * 4294967296)) + u)) - (IntKind.u64.wrap (((U * 4294967296 + u) / (y1 * 4294967296 + y0)) * y)))) s) := by
  have hy : 0 < y1 * 4294967296 + y0 := by omega
  have hQ0 : 0 ≤ (U * 4294967296 + u) / (y1 * 4294967296 + y0) := Int.ediv_nonneg (by omega) (by omega)
  intro d
  induction d with
  | zero =>
    intro q r hq h
    have hq : q = (U * 4294967296 + u) / (y1 * 4294967296 + y0) := by omega
    have hq1 := half_lt hy hU u1
    rw [← hq] at hq1
    have ht : ¬ 4294967296 * r + u < q * y0 := by
      intro ht
      have := half_gt (u := u) hy h.2.1 ht
      omega
    obtain ⟨e1, e2⟩ := half_test (show 0 ≤ q by omega) hq1 h3 h4 h.2.2.1 h.2.2.2.1 u0 u1
    have c1 : ¬ q ≥ 4294967296 := by omega
    rw [← hq]
    refine Ev.step (f := fun k => bits_Div64.j4 k y s y1 y0 u Q1 r U q false) (fun k => ?_) (Ev.step (f := fun _ => some _) (fun k => ?_) (Ev.now _))
    · simp only [bits_Div64.l1]
      rw [if_neg c1, e1, e2, decide_eq_false ht]
    · simp only [bits_Div64.j4]
      rw [if_neg Bool.false_ne_true, if_pos s0]
  | succ d ih =>
    intro q r hq h
    have ht : 4294967296 ≤ q ∨ 4294967296 * r + u < q * y0 := by
      by_cases ht : 4294967296 * r + u < q * y0
      · exact Or.inr ht
      · have := half_done hy h ht
        omega
    obtain ⟨g1, g2⟩ := half_step h1 h2 h3 h4 hU u0 u1 h ht
    have r0 := h.2.2.1
    have r1 := h.2.2.2.1
    have q1 := h.2.2.2.2
    have w1 : IntKind.u64.wrap (q - 1) = q - 1 := u64 (by omega) (by omega)
    have w2 : IntKind.u64.wrap (r + y1) = r + y1 := u64 (by omega) (by omega)
    refine Ev.step (f := fun k => bits_Div64.j4 k y s y1 y0 u Q1 r U q true) (fun k => ?_) ?_
    · simp only [bits_Div64.l1]
      by_cases c1 : q ≥ 4294967296
      · rw [if_pos c1]
      · rw [if_neg c1]
        have ht' : 4294967296 * r + u < q * y0 := by
          rcases ht with ht | ht
          · exact absurd ht c1
          · exact ht
        obtain ⟨e1, e2⟩ := half_test (show 0 ≤ q by omega) (by omega) h3 h4 r0 r1 u0 u1
        rw [e1, e2, decide_eq_true ht']
    · by_cases c2 : r + y1 ≥ 4294967296
      · refine Ev.step (f := fun _ => some _) (fun k => ?_) (Ev.now _)
        simp only [bits_Div64.j4]
        rw [if_pos trivial, w1, w2, if_pos c2, if_pos s0, g1 c2]
      · refine Ev.step (f := fun k => bits_Div64.l1 k y s y1 y0 u Q1 (r + y1) U (q - 1)) (fun k => ?_) (ih (q - 1) (r + y1) (by omega) (g2 (by omega)))
        simp only [bits_Div64.j4]
        rw [if_pos trivial, w1, w2, if_neg c2]
theorem div_l0 {y s y1 y0 : Int} (h1 : 2147483648 ≤ y1) (h2 : y1 < 4294967296) (h3 : 0 ≤ y0) (h4 : y0 < 4294967296) {U u v : Int} (U0 : 0 ≤ U) (hU : U < y1 * 4294967296 + y0) (u0 : 0 ≤ u) (u1 : u < 4294967296) {R : Int × Int}
    (next : Ev (fun k => bits_Div64.j2 k y s y1 y0 U u v ((U * 4294967296 + u) / (y1 * 4294967296 + y0))) R) : ∀ (d : Nat) (q r : Int), q = (U * 4294967296 + u) / (y1 * 4294967296 + y0) + d → Half y1 U ((U * 4294967296 + u) / (y1 * 4294967296 + y0)) q r →
    Ev (fun k => bits_Div64.l0 k y s y1 y0 U u v q r) R := by
  have hy : 0 < y1 * 4294967296 + y0 := by omega
  have hQ0 : 0 ≤ (U * 4294967296 + u) / (y1 * 4294967296 + y0) := Int.ediv_nonneg (by omega) (by omega)
  intro d
  induction d with
  | zero =>
    intro q r hq h
    have hq : q = (U * 4294967296 + u) / (y1 * 4294967296 + y0) := by omega
    have hq1 := half_lt hy hU u1
    rw [← hq] at hq1
    have ht : ¬ 4294967296 * r + u < q * y0 := by
      intro ht
      have := half_gt (u := u) hy h.2.1 ht
      omega
    obtain ⟨e1, e2⟩ := half_test (show 0 ≤ q by omega) hq1 h3 h4 h.2.2.1 h.2.2.2.1 u0 u1
    have c1 : ¬ q ≥ 4294967296 := by omega
    rw [← hq] at next
    refine Ev.step (f := fun k => bits_Div64.j1 k y s y1 y0 U u v q r false) (fun k => ?_) (Ev.step (f := fun k => bits_Div64.j2 k y s y1 y0 U u v q) (fun k => ?_) next)
    · simp only [bits_Div64.l0]
      rw [if_neg c1, e1, e2, decide_eq_false ht]
    · simp only [bits_Div64.j1]
      rw [if_neg Bool.false_ne_true]
  | succ d ih =>
    intro q r hq h
    have ht : 4294967296 ≤ q ∨ 4294967296 * r + u < q * y0 := by
      by_cases ht : 4294967296 * r + u < q * y0
      · exact Or.inr ht
      · have := half_done hy h ht
        omega
    obtain ⟨g1, g2⟩ := half_step h1 h2 h3 h4 hU u0 u1 h ht
    have r0 := h.2.2.1
    have r1 := h.2.2.2.1
    have q1 := h.2.2.2.2
    have w1 : IntKind.u64.wrap (q - 1) = q - 1 := u64 (by omega) (by omega)
    have w2 : IntKind.u64.wrap (r + y1) = r + y1 := u64 (by omega) (by omega)
    refine Ev.step (f := fun k => bits_Div64.j1 k y s y1 y0 U u v q r true) (fun k => ?_) ?_
    · simp only [bits_Div64.l0]
      by_cases c1 : q ≥ 4294967296
      · rw [if_pos c1]
      · rw [if_neg c1]
        have ht' : 4294967296 * r + u < q * y0 := by
          rcases ht with ht | ht
          · exact absurd ht c1
          · exact ht
        obtain ⟨e1, e2⟩ := half_test (show 0 ≤ q by omega) (by omega) h3 h4 r0 r1 u0 u1
        rw [e1, e2, decide_eq_true ht']
    · by_cases c2 : r + y1 ≥ 4294967296
      · rw [← g1 c2] at next
        refine Ev.step (f := fun k => bits_Div64.j2 k y s y1 y0 U u v (q - 1)) (fun k => ?_) next
        simp only [bits_Div64.j1]
        rw [if_pos trivial, w1, w2, if_pos c2]
      · refine Ev.step (f := fun k => bits_Div64.l0 k y s y1 y0 U u v (q - 1) (r + y1)) (fun k => ?_) (ih (q - 1) (r + y1) (by omega) (g2 (by omega)))
        simp only [bits_Div64.j1]
        rw [if_pos trivial, w1, w2, if_neg c2]
end Go.Proofs.YtohkmnbnjacfaaaN
