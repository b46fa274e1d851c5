/- Part of the proof of the statement NaturalRoots: lemmas on the model's steps, Lean functions that say what the program's functions compute, and proofs that the calls do just that. No hypothesis is added. -/
import Derived.Test.YtohkmnbnjacfaaaKNaturalRoots3
set_option linter.all false
namespace Go.Proofs.Ytohkmnbnjacfaaa.All
open Go.Proofs.YtohkmnbnjacfaaaX
open Go.RowKit Go.Proofs.YtohkmnbnjacfaaaW.PrintWords Go.Proofs.YtohkmnbnjacfaaaW.PrintLast Go.Proofs.YtohkmnbnjacfaaaW.PrintMore
attribute [local go_sem] max2_int min2_int max_two min_two max_three min_three max_four min_four
set_option linter.unusedVariables false
set_option linter.unusedSimpArgs false
def galoislaw01_NaturalRoots.j0 : Nat → ByteArray → Int → Bool → Option (Bool)
 | 0, _, _, _ => none
 | k + 1, x0, x1, x29 => if x29 = true then ((galoislaw01_awake.f k).bind fun t694 => (some t694)) else ((natural_Root.f k x0 (wrap64 (1 + (Int.tmod (wrap64 (x1)) 40)))).bind fun bt695 => ((galoislaw01_nat.f k 1).bind fun t697 => ((natural_Add.f k bt695.1 t697).bind fun bt698 => ((natural_Pow.f k bt695.1 (wrap64 (1 + (Int.tmod (wrap64 (x1)) 40)))).bind fun bt700 => ((natural_Pow.f k bt698.1 (wrap64 (1 + (Int.tmod (wrap64 (x1)) 40)))).bind fun bt702 => ((natural_Compare.f k bt700.1 x0).bind fun bt704 => ((natural_Compare.f k x0 bt702.1).bind fun bt706 => (if bt695.2 = 0 then (if bt698.2 = 0 then (if bt700.2 = 0 then (if bt702.2 = 0 then (if bt704.2 = 0 then (if bt706.2 = 0 then (if bt704.1 ≤ 0 then (some (bt706.1 == (-1))) else (some false)) else (some false)) else (some false)) else (some false)) else (some false)) else (some false)) else (some false)))))))))
def galoislaw01_NaturalRoots.f (k : Nat) (a0 : ByteArray) (a1 : Int) : Option (Bool) := (galoislaw01_awake.f k).bind fun t692 => (if t692 = true then (if (a0.size : Int) > 60 then (galoislaw01_NaturalRoots.j0 k a0 a1 true) else ((galoisref01_Check.f a0).bind fun t693 => (galoislaw01_NaturalRoots.j0 k a0 a1 (t693 != 0)))) else (galoislaw01_NaturalRoots.j0 k a0 a1 true))
theorem galoislaw01_NaturalRoots.mono_l : ∀ k, (∀ y0 y1 y2, LeO (galoislaw01_NaturalRoots.j0 k y0 y1 y2) (galoislaw01_NaturalRoots.j0 (k + 1) y0 y1 y2))
 | 0 => fun _ _ _ r h => by simp [galoislaw01_NaturalRoots.j0] at h
 | k + 1 => by
  have ih0 := galoislaw01_NaturalRoots.mono_l k
  ·intro y0 y1 y2
   unfold galoislaw01_NaturalRoots.j0
   repeat' first
   | (with_reducible exact ih0 _ _ _)
   | (with_reducible exact galoislaw01_awake.mono _)
   | (with_reducible exact galoislaw01_nat.mono _ _)
   | (with_reducible exact natural_Add.mono _ _ _)
   | (with_reducible exact natural_Compare.mono _ _ _)
   | (with_reducible exact natural_Pow.mono _ _ _)
   | (with_reducible exact natural_Root.mono _ _ _)
   | (with_reducible exact LeO.refl _)
   | (with_reducible exact LeO.none _)
   | (with_reducible refine LeO.ite ?_ ?_)
   | (with_reducible refine LeO.bind ?_ (fun _ => ?_))
   | exact ih0 _ _ _
   | exact galoislaw01_awake.mono _
   | exact galoislaw01_nat.mono _ _
   | exact natural_Add.mono _ _ _
   | exact natural_Compare.mono _ _ _
   | exact natural_Pow.mono _ _ _
   | exact natural_Root.mono _ _ _
   | exact LeO.none _
   | refine LeO.ite ?_ ?_
   | refine LeO.bind ?_ (fun _ => ?_)
theorem galoislaw01_NaturalRoots.mono : ∀ a0 a1 k, LeO (galoislaw01_NaturalRoots.f k a0 a1) (galoislaw01_NaturalRoots.f (k + 1) a0 a1) := by
 intro a0 a1 k
 have ih0 := galoislaw01_NaturalRoots.mono_l k
 unfold galoislaw01_NaturalRoots.f
 repeat' first
   | (with_reducible exact ih0 _ _ _)
   | (with_reducible exact galoislaw01_awake.mono _)
   | (with_reducible exact galoislaw01_nat.mono _ _)
   | (with_reducible exact natural_Add.mono _ _ _)
   | (with_reducible exact natural_Compare.mono _ _ _)
   | (with_reducible exact natural_Pow.mono _ _ _)
   | (with_reducible exact natural_Root.mono _ _ _)
   | (with_reducible exact LeO.refl _)
   | (with_reducible exact LeO.none _)
   | (with_reducible refine LeO.ite ?_ ?_)
   | (with_reducible refine LeO.bind ?_ (fun _ => ?_))
   | exact ih0 _ _ _
   | exact galoislaw01_awake.mono _
   | exact galoislaw01_nat.mono _ _
   | exact natural_Add.mono _ _ _
   | exact natural_Compare.mono _ _ _
   | exact natural_Pow.mono _ _ _
   | exact natural_Root.mono _ _ _
   | exact LeO.none _
   | refine LeO.ite ?_ ?_
   | refine LeO.bind ?_ (fun _ => ?_)
set_option maxHeartbeats 8000000 in
set_option maxRecDepth 100000 in
theorem galoislaw01_NaturalRoots.calls (k : Nat) (a0 : ByteArray) (a1 : Int) (r : Bool) (w : World) (h : galoislaw01_NaturalRoots.f k a0 a1 = some r) :
  Calls Try.prog 7 #[.string a0, .int .u8 a1] w fun e w' => e = .returned (.bool r) ∧ Below w.heap.size w w' := by
 have HB := Aside0.mk (Below.refl w.heap.size w)
 have H : ((galoislaw01_awake.f k).bind fun t692 => (if t692 = true then (if (a0.size : Int) > 60 then (galoislaw01_NaturalRoots.j0 k a0 a1 true) else ((galoisref01_Check.f a0).bind fun t693 => (galoislaw01_NaturalRoots.j0 k a0 a1 (t693 != 0)))) else (galoislaw01_NaturalRoots.j0 k a0 a1 true))) = some r := h
 clear h
 have HC3 := Aside0.mk H
 clear H
 go_enter Try.func7, Try.ntmps7
 go_upto_region 1 with (fail)
 go_cut [29] (fun v29 wc => ∃ (kq : Nat) (x29_2 : Bool), v29 = .bool x29_2 ∧ Aside0 (galoislaw01_NaturalRoots.j0 kq a0 a1 x29_2 = some r) ∧ Aside0 (kq ≤ k) ∧ Aside0 (Below w.heap.size w wc))
 case first =>
  have H := HC3.out
  clear HC3
  replace H := Option.bind_eq_some_iff.mp H
  obtain ⟨t692, A40, H⟩ := H
  replace H : (if t692 = true then (if (a0.size : Int) > 60 then (galoislaw01_NaturalRoots.j0 k a0 a1 true) else ((galoisref01_Check.f a0).bind fun t693 => (galoislaw01_NaturalRoots.j0 k a0 a1 (t693 != 0)))) else (galoislaw01_NaturalRoots.j0 k a0 a1 true)) = some r := H
  have A4 := Aside0.mk A40
  clear A40
  by_cases c5 : t692 = true
  ·subst c5
   have H1 : (if (a0.size : Int) > 60 then (galoislaw01_NaturalRoots.j0 k a0 a1 true) else ((galoisref01_Check.f a0).bind fun t693 => (galoislaw01_NaturalRoots.j0 k a0 a1 (t693 != 0)))) = some r := by rw [if_pos rfl] at H; exact H
   clear H
   have H := H1
   clear H1
   by_cases c6 : (a0.size : Int) > 60
   ·rw [if_pos c6] at H
    have c6b0 : decide (60 < (a0.size : Int)) = true := decide_eq_true c6
    have c6b1 : decide (60 < a0.size) = true := decide_eq_true (by omega)
    clear c6
    (first | rw [c6b0] | rw [c6b1] | (simp only [i64_w, i32_w]; rw [c6b0]) | skip)
    have H' := Aside0.mk H
    clear H
    go_wp2_with (first | ((with_reducible refine gate_callee (f := 12) rfl ?_); refine goesL_ (some 18) rfl rfl Try.func12 (by kernel_rfl) rfl #[] rfl (by (try simp only [List.map_toArray, List.map_cons, List.map_nil]); first | done | rfl | (simp only [List.length_drop, List.length_take]; rfl)) ?_; (with_reducible refine (galoislaw01_awake.calls k  true _ A4.out).mono ?_); rintro e w7 ⟨rfl, hb⟩; refine ⟨_, rfl, ?_⟩; have n0_ := Aside0.mk (below_step (by repeat (first | (with_reducible first | exact HB.out | apply below_alloc | apply pw_below_drewN | apply below_drew1) | exact HB.out)) hb); clear HB; have HB := n0_; clear n0_; (try clear hb); (try clear hb2); (try clear hk); (try clear hi)))
    go_meet
    case rel => exact ⟨_, (true), (by first | rfl | (simp; done) | (simp [*]; done)), H', ⟨by first | omega | exact Nat.le_refl _⟩, ⟨by repeat (first | (with_reducible first | exact HB.out | apply below_alloc | apply pw_below_drewN | apply below_drew1) | exact HB.out)⟩⟩
   ·rw [if_neg c6] at H
    have c6b0 : decide (60 < (a0.size : Int)) = false := decide_eq_false c6
    have c6b1 : decide (60 < a0.size) = false := decide_eq_false (by omega)
    clear c6
    (first | rw [c6b0] | rw [c6b1] | (simp only [i64_w, i32_w]; rw [c6b0]) | skip)
    replace H := Option.bind_eq_some_iff.mp H
    obtain ⟨t693, A80, H⟩ := H
    replace H : (galoislaw01_NaturalRoots.j0 k a0 a1 (t693 != 0)) = some r := H
    have A8 := Aside0.mk A80
    clear A80
    have H' := Aside0.mk H
    clear H
    go_wp2_with (first | ((with_reducible refine gate_callee (f := 12) rfl ?_); refine goesL_ (some 18) rfl rfl Try.func12 (by kernel_rfl) rfl #[] rfl (by (try simp only [List.map_toArray, List.map_cons, List.map_nil]); first | done | rfl | (simp only [List.length_drop, List.length_take]; rfl)) ?_; (with_reducible refine (galoislaw01_awake.calls k  true _ A4.out).mono ?_); rintro e w9 ⟨rfl, hb⟩; refine ⟨_, rfl, ?_⟩; have n0_ := Aside0.mk (below_step (by repeat (first | (with_reducible first | exact HB.out | apply below_alloc | apply pw_below_drewN | apply below_drew1) | exact HB.out)) hb); clear HB; have HB := n0_; clear n0_; (try clear hb); (try clear hb2); (try clear hk); (try clear hi)) | (go_at_call 24; (with_reducible refine (galoisref01_Check.calls a0 t693 _ A8.out).mono ?_); rintro e w' ⟨rfl, ⟨nd, rfl⟩⟩))
    go_meet
    case rel => exact ⟨_, ((t693 != 0)), (by first | rfl | (simp; done) | (simp [*]; done)), H', ⟨by first | omega | exact Nat.le_refl _⟩, ⟨by repeat (first | (with_reducible first | exact HB.out | apply below_alloc | apply pw_below_drewN | apply below_drew1) | exact HB.out)⟩⟩
  ·replace c5 := Bool.eq_false_iff.mpr c5
   subst c5
   have H1 : (galoislaw01_NaturalRoots.j0 k a0 a1 true) = some r := by rw [if_neg (show ¬ (false = true) by decide)] at H; exact H
   clear H
   have H := H1
   clear H1
   have H' := Aside0.mk H
   clear H
   go_wp2_with (first | ((with_reducible refine gate_callee (f := 12) rfl ?_); refine goesL_ (some 18) rfl rfl Try.func12 (by kernel_rfl) rfl #[] rfl (by (try simp only [List.map_toArray, List.map_cons, List.map_nil]); first | done | rfl | (simp only [List.length_drop, List.length_take]; rfl)) ?_; (with_reducible refine (galoislaw01_awake.calls k  false _ A4.out).mono ?_); rintro e w10 ⟨rfl, hb⟩; refine ⟨_, rfl, ?_⟩; have n0_ := Aside0.mk (below_step (by repeat (first | (with_reducible first | exact HB.out | apply below_alloc | apply pw_below_drewN | apply below_drew1) | exact HB.out)) hb); clear HB; have HB := n0_; clear n0_; (try clear hb); (try clear hb2); (try clear hk); (try clear hi)))
   go_meet
   case rel => exact ⟨_, (true), (by first | rfl | (simp; done) | (simp [*]; done)), H', ⟨by first | omega | exact Nat.le_refl _⟩, ⟨by repeat (first | (with_reducible first | exact HB.out | apply below_alloc | apply pw_below_drewN | apply below_drew1) | exact HB.out)⟩⟩
 case rest =>
  clear HC3
  try clear c1
  try clear p2
  try clear c5
  try clear c6
  try clear c6b0
  try clear c6b1
  try clear c7
  obtain ⟨kq, x29_2, rfl, HA, HJ2, HB⟩ := hcut
  cases kq with
  | zero => exact absurd HA.out (by simp [galoislaw01_NaturalRoots.j0])
  | succ kj2 =>
   have H := HA.out
   clear HA
   simp only [galoislaw01_NaturalRoots.j0] at H
   by_cases c11 : x29_2 = true
   ·subst c11
    have H1 : ((galoislaw01_awake.f kj2).bind fun t694 => (some t694)) = some r := by rw [if_pos rfl] at H; exact H
    clear H
    have H := H1
    clear H1
    replace H := Option.bind_eq_some_iff.mp H
    obtain ⟨t694, A120, H⟩ := H
    replace H : (some t694) = some r := H
    have A12 := Aside0.mk A120
    clear A120
    obtain rfl := Option.some.inj H
    go_wp2_with (first | ((with_reducible refine gate_callee (f := 12) rfl ?_); refine goesL_ (some 30) rfl rfl Try.func12 (by kernel_rfl) rfl #[] rfl (by (try simp only [List.map_toArray, List.map_cons, List.map_nil]); first | done | rfl | (simp only [List.length_drop, List.length_take]; rfl)) ?_; (with_reducible refine (galoislaw01_awake.calls kj2  t694 _ A12.out).mono ?_); rintro e w13 ⟨rfl, hb⟩; refine ⟨_, rfl, ?_⟩; have n0_ := Aside0.mk (below_step (by repeat (first | (with_reducible first | exact HB.out | apply below_alloc | apply pw_below_drewN | apply below_drew1) | exact HB.out)) hb); clear HB; have HB := n0_; clear n0_; (try clear hb); (try clear hb2); (try clear hk); (try clear hi)))
    go_ret
    exact ⟨by first | rfl | (simp [errW_none, errW_some] <;> rfl) | (simp [*, errW_none, errW_some] <;> rfl), by repeat (first | (with_reducible first | exact HB.out | apply below_alloc | apply pw_below_drewN | apply below_drew1) | exact HB.out)⟩
   ·replace c11 := Bool.eq_false_iff.mpr c11
    subst c11
    have H1 : ((natural_Root.f kj2 a0 (wrap64 (1 + (Int.tmod (wrap64 (a1)) 40)))).bind fun bt695 => ((galoislaw01_nat.f kj2 1).bind fun t697 => ((natural_Add.f kj2 bt695.1 t697).bind fun bt698 => ((natural_Pow.f kj2 bt695.1 (wrap64 (1 + (Int.tmod (wrap64 (a1)) 40)))).bind fun bt700 => ((natural_Pow.f kj2 bt698.1 (wrap64 (1 + (Int.tmod (wrap64 (a1)) 40)))).bind fun bt702 => ((natural_Compare.f kj2 bt700.1 a0).bind fun bt704 => ((natural_Compare.f kj2 a0 bt702.1).bind fun bt706 => (if bt695.2 = 0 then (if bt698.2 = 0 then (if bt700.2 = 0 then (if bt702.2 = 0 then (if bt704.2 = 0 then (if bt706.2 = 0 then (if bt704.1 ≤ 0 then (some (bt706.1 == (-1))) else (some false)) else (some false)) else (some false)) else (some false)) else (some false)) else (some false)) else (some false))))))))) = some r := by rw [if_neg (show ¬ (false = true) by decide)] at H; exact H
    clear H
    have H := H1
    clear H1
    replace H := Option.bind_eq_some_iff.mp H
    obtain ⟨⟨t695, t696⟩, A140, H⟩ := H
    replace H : ((galoislaw01_nat.f kj2 1).bind fun t697 => ((natural_Add.f kj2 t695 t697).bind fun bt698 => ((natural_Pow.f kj2 t695 (wrap64 (1 + (Int.tmod (wrap64 (a1)) 40)))).bind fun bt700 => ((natural_Pow.f kj2 bt698.1 (wrap64 (1 + (Int.tmod (wrap64 (a1)) 40)))).bind fun bt702 => ((natural_Compare.f kj2 bt700.1 a0).bind fun bt704 => ((natural_Compare.f kj2 a0 bt702.1).bind fun bt706 => (if t696 = 0 then (if bt698.2 = 0 then (if bt700.2 = 0 then (if bt702.2 = 0 then (if bt704.2 = 0 then (if bt706.2 = 0 then (if bt704.1 ≤ 0 then (some (bt706.1 == (-1))) else (some false)) else (some false)) else (some false)) else (some false)) else (some false)) else (some false)) else (some false)))))))) = some r := H
    have A14 := Aside0.mk A140
    clear A140
    replace H := Option.bind_eq_some_iff.mp H
    obtain ⟨t697, A150, H⟩ := H
    replace H : ((natural_Add.f kj2 t695 t697).bind fun bt698 => ((natural_Pow.f kj2 t695 (wrap64 (1 + (Int.tmod (wrap64 (a1)) 40)))).bind fun bt700 => ((natural_Pow.f kj2 bt698.1 (wrap64 (1 + (Int.tmod (wrap64 (a1)) 40)))).bind fun bt702 => ((natural_Compare.f kj2 bt700.1 a0).bind fun bt704 => ((natural_Compare.f kj2 a0 bt702.1).bind fun bt706 => (if t696 = 0 then (if bt698.2 = 0 then (if bt700.2 = 0 then (if bt702.2 = 0 then (if bt704.2 = 0 then (if bt706.2 = 0 then (if bt704.1 ≤ 0 then (some (bt706.1 == (-1))) else (some false)) else (some false)) else (some false)) else (some false)) else (some false)) else (some false)) else (some false))))))) = some r := H
    have A15 := Aside0.mk A150
    clear A150
    replace H := Option.bind_eq_some_iff.mp H
    obtain ⟨⟨t698, t699⟩, A160, H⟩ := H
    replace H : ((natural_Pow.f kj2 t695 (wrap64 (1 + (Int.tmod (wrap64 (a1)) 40)))).bind fun bt700 => ((natural_Pow.f kj2 t698 (wrap64 (1 + (Int.tmod (wrap64 (a1)) 40)))).bind fun bt702 => ((natural_Compare.f kj2 bt700.1 a0).bind fun bt704 => ((natural_Compare.f kj2 a0 bt702.1).bind fun bt706 => (if t696 = 0 then (if t699 = 0 then (if bt700.2 = 0 then (if bt702.2 = 0 then (if bt704.2 = 0 then (if bt706.2 = 0 then (if bt704.1 ≤ 0 then (some (bt706.1 == (-1))) else (some false)) else (some false)) else (some false)) else (some false)) else (some false)) else (some false)) else (some false)))))) = some r := H
    have A16 := Aside0.mk A160
    clear A160
    replace H := Option.bind_eq_some_iff.mp H
    obtain ⟨⟨t700, t701⟩, A170, H⟩ := H
    replace H : ((natural_Pow.f kj2 t698 (wrap64 (1 + (Int.tmod (wrap64 (a1)) 40)))).bind fun bt702 => ((natural_Compare.f kj2 t700 a0).bind fun bt704 => ((natural_Compare.f kj2 a0 bt702.1).bind fun bt706 => (if t696 = 0 then (if t699 = 0 then (if t701 = 0 then (if bt702.2 = 0 then (if bt704.2 = 0 then (if bt706.2 = 0 then (if bt704.1 ≤ 0 then (some (bt706.1 == (-1))) else (some false)) else (some false)) else (some false)) else (some false)) else (some false)) else (some false)) else (some false))))) = some r := H
    have A17 := Aside0.mk A170
    clear A170
    replace H := Option.bind_eq_some_iff.mp H
    obtain ⟨⟨t702, t703⟩, A180, H⟩ := H
    replace H : ((natural_Compare.f kj2 t700 a0).bind fun bt704 => ((natural_Compare.f kj2 a0 t702).bind fun bt706 => (if t696 = 0 then (if t699 = 0 then (if t701 = 0 then (if t703 = 0 then (if bt704.2 = 0 then (if bt706.2 = 0 then (if bt704.1 ≤ 0 then (some (bt706.1 == (-1))) else (some false)) else (some false)) else (some false)) else (some false)) else (some false)) else (some false)) else (some false)))) = some r := H
    have A18 := Aside0.mk A180
    clear A180
    replace H := Option.bind_eq_some_iff.mp H
    obtain ⟨⟨t704, t705⟩, A190, H⟩ := H
    replace H : ((natural_Compare.f kj2 a0 t702).bind fun bt706 => (if t696 = 0 then (if t699 = 0 then (if t701 = 0 then (if t703 = 0 then (if t705 = 0 then (if bt706.2 = 0 then (if t704 ≤ 0 then (some (bt706.1 == (-1))) else (some false)) else (some false)) else (some false)) else (some false)) else (some false)) else (some false)) else (some false))) = some r := H
    have A19 := Aside0.mk A190
    clear A190
    replace H := Option.bind_eq_some_iff.mp H
    obtain ⟨⟨t706, t707⟩, A200, H⟩ := H
    replace H : (if t696 = 0 then (if t699 = 0 then (if t701 = 0 then (if t703 = 0 then (if t705 = 0 then (if t707 = 0 then (if t704 ≤ 0 then (some (t706 == (-1))) else (some false)) else (some false)) else (some false)) else (some false)) else (some false)) else (some false)) else (some false)) = some r := H
    have A20 := Aside0.mk A200
    clear A200
    by_cases c21 : t696 = 0
    ·rw [if_pos c21] at H
     have c21b0 : (t696 == 0) = true := beq_iff_eq.mpr c21
     have c21b1 : (t696 != 0) = false := bne_eq_false_iff_eq.mpr c21
     clear c21
     by_cases c22 : t699 = 0
     ·rw [if_pos c22] at H
      have c22b0 : (t699 == 0) = true := beq_iff_eq.mpr c22
      have c22b1 : (t699 != 0) = false := bne_eq_false_iff_eq.mpr c22
      clear c22
      by_cases c23 : t701 = 0
      ·rw [if_pos c23] at H
       have c23b0 : (t701 == 0) = true := beq_iff_eq.mpr c23
       have c23b1 : (t701 != 0) = false := bne_eq_false_iff_eq.mpr c23
       clear c23
       by_cases c24 : t703 = 0
       ·rw [if_pos c24] at H
        have c24b0 : (t703 == 0) = true := beq_iff_eq.mpr c24
        have c24b1 : (t703 != 0) = false := bne_eq_false_iff_eq.mpr c24
        clear c24
        by_cases c25 : t705 = 0
        ·rw [if_pos c25] at H
         have c25b0 : (t705 == 0) = true := beq_iff_eq.mpr c25
         have c25b1 : (t705 != 0) = false := bne_eq_false_iff_eq.mpr c25
         clear c25
         by_cases c26 : t707 = 0
         ·rw [if_pos c26] at H
          have c26b0 : (t707 == 0) = true := beq_iff_eq.mpr c26
          have c26b1 : (t707 != 0) = false := bne_eq_false_iff_eq.mpr c26
          clear c26
          by_cases c27 : t704 ≤ 0
          ·rw [if_pos c27] at H
           have c27b0 : decide (t704 ≤ 0) = true := decide_eq_true c27
           clear c27
           obtain rfl := Option.some.inj H
           go_wp2_with (first | ((with_reducible refine gate_callee (f := 21) rfl ?_); refine goesL_ (some 38) rfl rfl Try.func21 (by kernel_rfl) rfl #[.string a0, .int .i64 (wrap64 (1 + (Int.tmod (wrap64 (a1)) 40)))] rfl (by (try simp only [List.map_toArray, List.map_cons, List.map_nil]); first | done | rfl | (simp only [List.length_drop, List.length_take]; rfl)) ?_; (with_reducible refine (natural_Root.calls kj2 a0 (wrap64 (1 + (Int.tmod (wrap64 (a1)) 40))) t695 t696 _ A14.out).mono ?_); rintro e w28 ⟨rfl, hb⟩; refine ⟨_, rfl, ?_⟩; have n0_ := Aside0.mk (below_step (by repeat (first | (with_reducible first | exact HB.out | apply below_alloc | apply pw_below_drewN | apply below_drew1) | exact HB.out)) hb); clear HB; have HB := n0_; clear n0_; (try clear hb); (try clear hb2); (try clear hk); (try clear hi)) | ((with_reducible refine gate_callee (f := 27) rfl ?_); refine goesL_ (some 43) rfl rfl Try.func27 (by kernel_rfl) rfl #[.int .i64 1] rfl (by (try simp only [List.map_toArray, List.map_cons, List.map_nil]); first | done | rfl | (simp only [List.length_drop, List.length_take]; rfl)) ?_; (with_reducible refine (galoislaw01_nat.calls kj2 1 t697 _ A15.out).mono ?_); rintro e w29 ⟨rfl, hb⟩; refine ⟨_, rfl, ?_⟩; have n0_ := Aside0.mk (below_step (by repeat (first | (with_reducible first | exact HB.out | apply below_alloc | apply pw_below_drewN | apply below_drew1) | exact HB.out)) hb); clear HB; have HB := n0_; clear n0_; (try clear hb); (try clear hb2); (try clear hk); (try clear hi)) | ((with_reducible refine gate_callee (f := 35) rfl ?_); refine goesL_ (some 44) rfl rfl Try.func35 (by kernel_rfl) rfl #[.string t695, .string t697] rfl (by (try simp only [List.map_toArray, List.map_cons, List.map_nil]); first | done | rfl | (simp only [List.length_drop, List.length_take]; rfl)) ?_; (with_reducible refine (natural_Add.calls kj2 t695 t697 t698 t699 _ A16.out).mono ?_); rintro e w30 ⟨rfl, hb⟩; refine ⟨_, rfl, ?_⟩; have n0_ := Aside0.mk (below_step (by repeat (first | (with_reducible first | exact HB.out | apply below_alloc | apply pw_below_drewN | apply below_drew1) | exact HB.out)) hb); clear HB; have HB := n0_; clear n0_; (try clear hb); (try clear hb2); (try clear hk); (try clear hi)) | ((with_reducible refine gate_callee (f := 20) rfl ?_); refine goesL_ (some 50) rfl rfl Try.func20 (by kernel_rfl) rfl #[.string t695, .int .i64 (wrap64 (1 + (Int.tmod (wrap64 (a1)) 40)))] rfl (by (try simp only [List.map_toArray, List.map_cons, List.map_nil]); first | done | rfl | (simp only [List.length_drop, List.length_take]; rfl)) ?_; (with_reducible refine (natural_Pow.calls kj2 t695 (wrap64 (1 + (Int.tmod (wrap64 (a1)) 40))) t700 t701 _ A17.out).mono ?_); rintro e w31 ⟨rfl, hb⟩; refine ⟨_, rfl, ?_⟩; have n0_ := Aside0.mk (below_step (by repeat (first | (with_reducible first | exact HB.out | apply below_alloc | apply pw_below_drewN | apply below_drew1) | exact HB.out)) hb); clear HB; have HB := n0_; clear n0_; (try clear hb); (try clear hb2); (try clear hk); (try clear hi)) | ((with_reducible refine gate_callee (f := 20) rfl ?_); refine goesL_ (some 56) rfl rfl Try.func20 (by kernel_rfl) rfl #[.string t698, .int .i64 (wrap64 (1 + (Int.tmod (wrap64 (a1)) 40)))] rfl (by (try simp only [List.map_toArray, List.map_cons, List.map_nil]); first | done | rfl | (simp only [List.length_drop, List.length_take]; rfl)) ?_; (with_reducible refine (natural_Pow.calls kj2 t698 (wrap64 (1 + (Int.tmod (wrap64 (a1)) 40))) t702 t703 _ A18.out).mono ?_); rintro e w32 ⟨rfl, hb⟩; refine ⟨_, rfl, ?_⟩; have n0_ := Aside0.mk (below_step (by repeat (first | (with_reducible first | exact HB.out | apply below_alloc | apply pw_below_drewN | apply below_drew1) | exact HB.out)) hb); clear HB; have HB := n0_; clear n0_; (try clear hb); (try clear hb2); (try clear hk); (try clear hi)) | ((with_reducible refine gate_callee (f := 36) rfl ?_); refine goesL_ (some 62) rfl rfl Try.func36 (by kernel_rfl) rfl #[.string t700, .string a0] rfl (by (try simp only [List.map_toArray, List.map_cons, List.map_nil]); first | done | rfl | (simp only [List.length_drop, List.length_take]; rfl)) ?_; (with_reducible refine (natural_Compare.calls kj2 t700 a0 t704 t705 _ A19.out).mono ?_); rintro e w33 ⟨rfl, hb⟩; refine ⟨_, rfl, ?_⟩; have n0_ := Aside0.mk (below_step (by repeat (first | (with_reducible first | exact HB.out | apply below_alloc | apply pw_below_drewN | apply below_drew1) | exact HB.out)) hb); clear HB; have HB := n0_; clear n0_; (try clear hb); (try clear hb2); (try clear hk); (try clear hi)) | ((with_reducible refine gate_callee (f := 36) rfl ?_); refine goesL_ (some 68) rfl rfl Try.func36 (by kernel_rfl) rfl #[.string a0, .string t702] rfl (by (try simp only [List.map_toArray, List.map_cons, List.map_nil]); first | done | rfl | (simp only [List.length_drop, List.length_take]; rfl)) ?_; (with_reducible refine (natural_Compare.calls kj2 a0 t702 t706 t707 _ A20.out).mono ?_); rintro e w34 ⟨rfl, hb⟩; refine ⟨_, rfl, ?_⟩; have n0_ := Aside0.mk (below_step (by repeat (first | (with_reducible first | exact HB.out | apply below_alloc | apply pw_below_drewN | apply below_drew1) | exact HB.out)) hb); clear HB; have HB := n0_; clear n0_; (try clear hb); (try clear hb2); (try clear hk); (try clear hi)))
           go_ret
           exact ⟨by first | rfl | (simp [errW_none, errW_some] <;> rfl) | (simp [*, errW_none, errW_some] <;> rfl), by repeat (first | (with_reducible first | exact HB.out | apply below_alloc | apply pw_below_drewN | apply below_drew1) | exact HB.out)⟩
          ·rw [if_neg c27] at H
           have c27b0 : decide (t704 ≤ 0) = false := decide_eq_false c27
           clear c27
           obtain rfl := Option.some.inj H
           go_wp2_with (first | ((with_reducible refine gate_callee (f := 21) rfl ?_); refine goesL_ (some 38) rfl rfl Try.func21 (by kernel_rfl) rfl #[.string a0, .int .i64 (wrap64 (1 + (Int.tmod (wrap64 (a1)) 40)))] rfl (by (try simp only [List.map_toArray, List.map_cons, List.map_nil]); first | done | rfl | (simp only [List.length_drop, List.length_take]; rfl)) ?_; (with_reducible refine (natural_Root.calls kj2 a0 (wrap64 (1 + (Int.tmod (wrap64 (a1)) 40))) t695 t696 _ A14.out).mono ?_); rintro e w35 ⟨rfl, hb⟩; refine ⟨_, rfl, ?_⟩; have n0_ := Aside0.mk (below_step (by repeat (first | (with_reducible first | exact HB.out | apply below_alloc | apply pw_below_drewN | apply below_drew1) | exact HB.out)) hb); clear HB; have HB := n0_; clear n0_; (try clear hb); (try clear hb2); (try clear hk); (try clear hi)) | ((with_reducible refine gate_callee (f := 27) rfl ?_); refine goesL_ (some 43) rfl rfl Try.func27 (by kernel_rfl) rfl #[.int .i64 1] rfl (by (try simp only [List.map_toArray, List.map_cons, List.map_nil]); first | done | rfl | (simp only [List.length_drop, List.length_take]; rfl)) ?_; (with_reducible refine (galoislaw01_nat.calls kj2 1 t697 _ A15.out).mono ?_); rintro e w36 ⟨rfl, hb⟩; refine ⟨_, rfl, ?_⟩; have n0_ := Aside0.mk (below_step (by repeat (first | (with_reducible first | exact HB.out | apply below_alloc | apply pw_below_drewN | apply below_drew1) | exact HB.out)) hb); clear HB; have HB := n0_; clear n0_; (try clear hb); (try clear hb2); (try clear hk); (try clear hi)) | ((with_reducible refine gate_callee (f := 35) rfl ?_); refine goesL_ (some 44) rfl rfl Try.func35 (by kernel_rfl) rfl #[.string t695, .string t697] rfl (by (try simp only [List.map_toArray, List.map_cons, List.map_nil]); first | done | rfl | (simp only [List.length_drop, List.length_take]; rfl)) ?_; (with_reducible refine (natural_Add.calls kj2 t695 t697 t698 t699 _ A16.out).mono ?_); rintro e w37 ⟨rfl, hb⟩; refine ⟨_, rfl, ?_⟩; have n0_ := Aside0.mk (below_step (by repeat (first | (with_reducible first | exact HB.out | apply below_alloc | apply pw_below_drewN | apply below_drew1) | exact HB.out)) hb); clear HB; have HB := n0_; clear n0_; (try clear hb); (try clear hb2); (try clear hk); (try clear hi)) | ((with_reducible refine gate_callee (f := 20) rfl ?_); refine goesL_ (some 50) rfl rfl Try.func20 (by kernel_rfl) rfl #[.string t695, .int .i64 (wrap64 (1 + (Int.tmod (wrap64 (a1)) 40)))] rfl (by (try simp only [List.map_toArray, List.map_cons, List.map_nil]); first | done | rfl | (simp only [List.length_drop, List.length_take]; rfl)) ?_; (with_reducible refine (natural_Pow.calls kj2 t695 (wrap64 (1 + (Int.tmod (wrap64 (a1)) 40))) t700 t701 _ A17.out).mono ?_); rintro e w38 ⟨rfl, hb⟩; refine ⟨_, rfl, ?_⟩; have n0_ := Aside0.mk (below_step (by repeat (first | (with_reducible first | exact HB.out | apply below_alloc | apply pw_below_drewN | apply below_drew1) | exact HB.out)) hb); clear HB; have HB := n0_; clear n0_; (try clear hb); (try clear hb2); (try clear hk); (try clear hi)) | ((with_reducible refine gate_callee (f := 20) rfl ?_); refine goesL_ (some 56) rfl rfl Try.func20 (by kernel_rfl) rfl #[.string t698, .int .i64 (wrap64 (1 + (Int.tmod (wrap64 (a1)) 40)))] rfl (by (try simp only [List.map_toArray, List.map_cons, List.map_nil]); first | done | rfl | (simp only [List.length_drop, List.length_take]; rfl)) ?_; (with_reducible refine (natural_Pow.calls kj2 t698 (wrap64 (1 + (Int.tmod (wrap64 (a1)) 40))) t702 t703 _ A18.out).mono ?_); rintro e w39 ⟨rfl, hb⟩; refine ⟨_, rfl, ?_⟩; have n0_ := Aside0.mk (below_step (by repeat (first | (with_reducible first | exact HB.out | apply below_alloc | apply pw_below_drewN | apply below_drew1) | exact HB.out)) hb); clear HB; have HB := n0_; clear n0_; (try clear hb); (try clear hb2); (try clear hk); (try clear hi)) | ((with_reducible refine gate_callee (f := 36) rfl ?_); refine goesL_ (some 62) rfl rfl Try.func36 (by kernel_rfl) rfl #[.string t700, .string a0] rfl (by (try simp only [List.map_toArray, List.map_cons, List.map_nil]); first | done | rfl | (simp only [List.length_drop, List.length_take]; rfl)) ?_; (with_reducible refine (natural_Compare.calls kj2 t700 a0 t704 t705 _ A19.out).mono ?_); rintro e w40 ⟨rfl, hb⟩; refine ⟨_, rfl, ?_⟩; have n0_ := Aside0.mk (below_step (by repeat (first | (with_reducible first | exact HB.out | apply below_alloc | apply pw_below_drewN | apply below_drew1) | exact HB.out)) hb); clear HB; have HB := n0_; clear n0_; (try clear hb); (try clear hb2); (try clear hk); (try clear hi)) | ((with_reducible refine gate_callee (f := 36) rfl ?_); refine goesL_ (some 68) rfl rfl Try.func36 (by kernel_rfl) rfl #[.string a0, .string t702] rfl (by (try simp only [List.map_toArray, List.map_cons, List.map_nil]); first | done | rfl | (simp only [List.length_drop, List.length_take]; rfl)) ?_; (with_reducible refine (natural_Compare.calls kj2 a0 t702 t706 t707 _ A20.out).mono ?_); rintro e w41 ⟨rfl, hb⟩; refine ⟨_, rfl, ?_⟩; have n0_ := Aside0.mk (below_step (by repeat (first | (with_reducible first | exact HB.out | apply below_alloc | apply pw_below_drewN | apply below_drew1) | exact HB.out)) hb); clear HB; have HB := n0_; clear n0_; (try clear hb); (try clear hb2); (try clear hk); (try clear hi)))
           go_ret
           exact ⟨by first | rfl | (simp [errW_none, errW_some] <;> rfl) | (simp [*, errW_none, errW_some] <;> rfl), by repeat (first | (with_reducible first | exact HB.out | apply below_alloc | apply pw_below_drewN | apply below_drew1) | exact HB.out)⟩
         ·rw [if_neg c26] at H
          have c26b0 : (t707 == 0) = false := beq_eq_false_iff_ne.mpr c26
          have c26b1 : (t707 != 0) = true := bne_iff_ne.mpr c26
          obtain rfl := Option.some.inj H
          go_wp2_with (first | ((with_reducible refine gate_callee (f := 21) rfl ?_); refine goesL_ (some 38) rfl rfl Try.func21 (by kernel_rfl) rfl #[.string a0, .int .i64 (wrap64 (1 + (Int.tmod (wrap64 (a1)) 40)))] rfl (by (try simp only [List.map_toArray, List.map_cons, List.map_nil]); first | done | rfl | (simp only [List.length_drop, List.length_take]; rfl)) ?_; (with_reducible refine (natural_Root.calls kj2 a0 (wrap64 (1 + (Int.tmod (wrap64 (a1)) 40))) t695 t696 _ A14.out).mono ?_); rintro e w42 ⟨rfl, hb⟩; refine ⟨_, rfl, ?_⟩; have n0_ := Aside0.mk (below_step (by repeat (first | (with_reducible first | exact HB.out | apply below_alloc | apply pw_below_drewN | apply below_drew1) | exact HB.out)) hb); clear HB; have HB := n0_; clear n0_; (try clear hb); (try clear hb2); (try clear hk); (try clear hi)) | ((with_reducible refine gate_callee (f := 27) rfl ?_); refine goesL_ (some 43) rfl rfl Try.func27 (by kernel_rfl) rfl #[.int .i64 1] rfl (by (try simp only [List.map_toArray, List.map_cons, List.map_nil]); first | done | rfl | (simp only [List.length_drop, List.length_take]; rfl)) ?_; (with_reducible refine (galoislaw01_nat.calls kj2 1 t697 _ A15.out).mono ?_); rintro e w43 ⟨rfl, hb⟩; refine ⟨_, rfl, ?_⟩; have n0_ := Aside0.mk (below_step (by repeat (first | (with_reducible first | exact HB.out | apply below_alloc | apply pw_below_drewN | apply below_drew1) | exact HB.out)) hb); clear HB; have HB := n0_; clear n0_; (try clear hb); (try clear hb2); (try clear hk); (try clear hi)) | ((with_reducible refine gate_callee (f := 35) rfl ?_); refine goesL_ (some 44) rfl rfl Try.func35 (by kernel_rfl) rfl #[.string t695, .string t697] rfl (by (try simp only [List.map_toArray, List.map_cons, List.map_nil]); first | done | rfl | (simp only [List.length_drop, List.length_take]; rfl)) ?_; (with_reducible refine (natural_Add.calls kj2 t695 t697 t698 t699 _ A16.out).mono ?_); rintro e w44 ⟨rfl, hb⟩; refine ⟨_, rfl, ?_⟩; have n0_ := Aside0.mk (below_step (by repeat (first | (with_reducible first | exact HB.out | apply below_alloc | apply pw_below_drewN | apply below_drew1) | exact HB.out)) hb); clear HB; have HB := n0_; clear n0_; (try clear hb); (try clear hb2); (try clear hk); (try clear hi)) | ((with_reducible refine gate_callee (f := 20) rfl ?_); refine goesL_ (some 50) rfl rfl Try.func20 (by kernel_rfl) rfl #[.string t695, .int .i64 (wrap64 (1 + (Int.tmod (wrap64 (a1)) 40)))] rfl (by (try simp only [List.map_toArray, List.map_cons, List.map_nil]); first | done | rfl | (simp only [List.length_drop, List.length_take]; rfl)) ?_; (with_reducible refine (natural_Pow.calls kj2 t695 (wrap64 (1 + (Int.tmod (wrap64 (a1)) 40))) t700 t701 _ A17.out).mono ?_); rintro e w45 ⟨rfl, hb⟩; refine ⟨_, rfl, ?_⟩; have n0_ := Aside0.mk (below_step (by repeat (first | (with_reducible first | exact HB.out | apply below_alloc | apply pw_below_drewN | apply below_drew1) | exact HB.out)) hb); clear HB; have HB := n0_; clear n0_; (try clear hb); (try clear hb2); (try clear hk); (try clear hi)) | ((with_reducible refine gate_callee (f := 20) rfl ?_); refine goesL_ (some 56) rfl rfl Try.func20 (by kernel_rfl) rfl #[.string t698, .int .i64 (wrap64 (1 + (Int.tmod (wrap64 (a1)) 40)))] rfl (by (try simp only [List.map_toArray, List.map_cons, List.map_nil]); first | done | rfl | (simp only [List.length_drop, List.length_take]; rfl)) ?_; (with_reducible refine (natural_Pow.calls kj2 t698 (wrap64 (1 + (Int.tmod (wrap64 (a1)) 40))) t702 t703 _ A18.out).mono ?_); rintro e w46 ⟨rfl, hb⟩; refine ⟨_, rfl, ?_⟩; have n0_ := Aside0.mk (below_step (by repeat (first | (with_reducible first | exact HB.out | apply below_alloc | apply pw_below_drewN | apply below_drew1) | exact HB.out)) hb); clear HB; have HB := n0_; clear n0_; (try clear hb); (try clear hb2); (try clear hk); (try clear hi)) | ((with_reducible refine gate_callee (f := 36) rfl ?_); refine goesL_ (some 62) rfl rfl Try.func36 (by kernel_rfl) rfl #[.string t700, .string a0] rfl (by (try simp only [List.map_toArray, List.map_cons, List.map_nil]); first | done | rfl | (simp only [List.length_drop, List.length_take]; rfl)) ?_; (with_reducible refine (natural_Compare.calls kj2 t700 a0 t704 t705 _ A19.out).mono ?_); rintro e w47 ⟨rfl, hb⟩; refine ⟨_, rfl, ?_⟩; have n0_ := Aside0.mk (below_step (by repeat (first | (with_reducible first | exact HB.out | apply below_alloc | apply pw_below_drewN | apply below_drew1) | exact HB.out)) hb); clear HB; have HB := n0_; clear n0_; (try clear hb); (try clear hb2); (try clear hk); (try clear hi)) | ((with_reducible refine gate_callee (f := 36) rfl ?_); refine goesL_ (some 68) rfl rfl Try.func36 (by kernel_rfl) rfl #[.string a0, .string t702] rfl (by (try simp only [List.map_toArray, List.map_cons, List.map_nil]); first | done | rfl | (simp only [List.length_drop, List.length_take]; rfl)) ?_; (with_reducible refine (natural_Compare.calls kj2 a0 t702 t706 t707 _ A20.out).mono ?_); rintro e w48 ⟨rfl, hb⟩; refine ⟨_, rfl, ?_⟩; have n0_ := Aside0.mk (below_step (by repeat (first | (with_reducible first | exact HB.out | apply below_alloc | apply pw_below_drewN | apply below_drew1) | exact HB.out)) hb); clear HB; have HB := n0_; clear n0_; (try clear hb); (try clear hb2); (try clear hk); (try clear hi)))
          go_ret
          exact ⟨by first | rfl | (simp [errW_none, errW_some] <;> rfl) | (simp [*, errW_none, errW_some] <;> rfl), by repeat (first | (with_reducible first | exact HB.out | apply below_alloc | apply pw_below_drewN | apply below_drew1) | exact HB.out)⟩
        ·rw [if_neg c25] at H
         have c25b0 : (t705 == 0) = false := beq_eq_false_iff_ne.mpr c25
         have c25b1 : (t705 != 0) = true := bne_iff_ne.mpr c25
         obtain rfl := Option.some.inj H
         go_wp2_with (first | ((with_reducible refine gate_callee (f := 21) rfl ?_); refine goesL_ (some 38) rfl rfl Try.func21 (by kernel_rfl) rfl #[.string a0, .int .i64 (wrap64 (1 + (Int.tmod (wrap64 (a1)) 40)))] rfl (by (try simp only [List.map_toArray, List.map_cons, List.map_nil]); first | done | rfl | (simp only [List.length_drop, List.length_take]; rfl)) ?_; (with_reducible refine (natural_Root.calls kj2 a0 (wrap64 (1 + (Int.tmod (wrap64 (a1)) 40))) t695 t696 _ A14.out).mono ?_); rintro e w49 ⟨rfl, hb⟩; refine ⟨_, rfl, ?_⟩; have n0_ := Aside0.mk (below_step (by repeat (first | (with_reducible first | exact HB.out | apply below_alloc | apply pw_below_drewN | apply below_drew1) | exact HB.out)) hb); clear HB; have HB := n0_; clear n0_; (try clear hb); (try clear hb2); (try clear hk); (try clear hi)) | ((with_reducible refine gate_callee (f := 27) rfl ?_); refine goesL_ (some 43) rfl rfl Try.func27 (by kernel_rfl) rfl #[.int .i64 1] rfl (by (try simp only [List.map_toArray, List.map_cons, List.map_nil]); first | done | rfl | (simp only [List.length_drop, List.length_take]; rfl)) ?_; (with_reducible refine (galoislaw01_nat.calls kj2 1 t697 _ A15.out).mono ?_); rintro e w50 ⟨rfl, hb⟩; refine ⟨_, rfl, ?_⟩; have n0_ := Aside0.mk (below_step (by repeat (first | (with_reducible first | exact HB.out | apply below_alloc | apply pw_below_drewN | apply below_drew1) | exact HB.out)) hb); clear HB; have HB := n0_; clear n0_; (try clear hb); (try clear hb2); (try clear hk); (try clear hi)) | ((with_reducible refine gate_callee (f := 35) rfl ?_); refine goesL_ (some 44) rfl rfl Try.func35 (by kernel_rfl) rfl #[.string t695, .string t697] rfl (by (try simp only [List.map_toArray, List.map_cons, List.map_nil]); first | done | rfl | (simp only [List.length_drop, List.length_take]; rfl)) ?_; (with_reducible refine (natural_Add.calls kj2 t695 t697 t698 t699 _ A16.out).mono ?_); rintro e w51 ⟨rfl, hb⟩; refine ⟨_, rfl, ?_⟩; have n0_ := Aside0.mk (below_step (by repeat (first | (with_reducible first | exact HB.out | apply below_alloc | apply pw_below_drewN | apply below_drew1) | exact HB.out)) hb); clear HB; have HB := n0_; clear n0_; (try clear hb); (try clear hb2); (try clear hk); (try clear hi)) | ((with_reducible refine gate_callee (f := 20) rfl ?_); refine goesL_ (some 50) rfl rfl Try.func20 (by kernel_rfl) rfl #[.string t695, .int .i64 (wrap64 (1 + (Int.tmod (wrap64 (a1)) 40)))] rfl (by (try simp only [List.map_toArray, List.map_cons, List.map_nil]); first | done | rfl | (simp only [List.length_drop, List.length_take]; rfl)) ?_; (with_reducible refine (natural_Pow.calls kj2 t695 (wrap64 (1 + (Int.tmod (wrap64 (a1)) 40))) t700 t701 _ A17.out).mono ?_); rintro e w52 ⟨rfl, hb⟩; refine ⟨_, rfl, ?_⟩; have n0_ := Aside0.mk (below_step (by repeat (first | (with_reducible first | exact HB.out | apply below_alloc | apply pw_below_drewN | apply below_drew1) | exact HB.out)) hb); clear HB; have HB := n0_; clear n0_; (try clear hb); (try clear hb2); (try clear hk); (try clear hi)) | ((with_reducible refine gate_callee (f := 20) rfl ?_); refine goesL_ (some 56) rfl rfl Try.func20 (by kernel_rfl) rfl #[.string t698, .int .i64 (wrap64 (1 + (Int.tmod (wrap64 (a1)) 40)))] rfl (by (try simp only [List.map_toArray, List.map_cons, List.map_nil]); first | done | rfl | (simp only [List.length_drop, List.length_take]; rfl)) ?_; (with_reducible refine (natural_Pow.calls kj2 t698 (wrap64 (1 + (Int.tmod (wrap64 (a1)) 40))) t702 t703 _ A18.out).mono ?_); rintro e w53 ⟨rfl, hb⟩; refine ⟨_, rfl, ?_⟩; have n0_ := Aside0.mk (below_step (by repeat (first | (with_reducible first | exact HB.out | apply below_alloc | apply pw_below_drewN | apply below_drew1) | exact HB.out)) hb); clear HB; have HB := n0_; clear n0_; (try clear hb); (try clear hb2); (try clear hk); (try clear hi)) | ((with_reducible refine gate_callee (f := 36) rfl ?_); refine goesL_ (some 62) rfl rfl Try.func36 (by kernel_rfl) rfl #[.string t700, .string a0] rfl (by (try simp only [List.map_toArray, List.map_cons, List.map_nil]); first | done | rfl | (simp only [List.length_drop, List.length_take]; rfl)) ?_; (with_reducible refine (natural_Compare.calls kj2 t700 a0 t704 t705 _ A19.out).mono ?_); rintro e w54 ⟨rfl, hb⟩; refine ⟨_, rfl, ?_⟩; have n0_ := Aside0.mk (below_step (by repeat (first | (with_reducible first | exact HB.out | apply below_alloc | apply pw_below_drewN | apply below_drew1) | exact HB.out)) hb); clear HB; have HB := n0_; clear n0_; (try clear hb); (try clear hb2); (try clear hk); (try clear hi)) | ((with_reducible refine gate_callee (f := 36) rfl ?_); refine goesL_ (some 68) rfl rfl Try.func36 (by kernel_rfl) rfl #[.string a0, .string t702] rfl (by (try simp only [List.map_toArray, List.map_cons, List.map_nil]); first | done | rfl | (simp only [List.length_drop, List.length_take]; rfl)) ?_; (with_reducible refine (natural_Compare.calls kj2 a0 t702 t706 t707 _ A20.out).mono ?_); rintro e w55 ⟨rfl, hb⟩; refine ⟨_, rfl, ?_⟩; have n0_ := Aside0.mk (below_step (by repeat (first | (with_reducible first | exact HB.out | apply below_alloc | apply pw_below_drewN | apply below_drew1) | exact HB.out)) hb); clear HB; have HB := n0_; clear n0_; (try clear hb); (try clear hb2); (try clear hk); (try clear hi)))
         go_ret
         exact ⟨by first | rfl | (simp [errW_none, errW_some] <;> rfl) | (simp [*, errW_none, errW_some] <;> rfl), by repeat (first | (with_reducible first | exact HB.out | apply below_alloc | apply pw_below_drewN | apply below_drew1) | exact HB.out)⟩
       ·rw [if_neg c24] at H
        have c24b0 : (t703 == 0) = false := beq_eq_false_iff_ne.mpr c24
        have c24b1 : (t703 != 0) = true := bne_iff_ne.mpr c24
        obtain rfl := Option.some.inj H
        go_wp2_with (first | ((with_reducible refine gate_callee (f := 21) rfl ?_); refine goesL_ (some 38) rfl rfl Try.func21 (by kernel_rfl) rfl #[.string a0, .int .i64 (wrap64 (1 + (Int.tmod (wrap64 (a1)) 40)))] rfl (by (try simp only [List.map_toArray, List.map_cons, List.map_nil]); first | done | rfl | (simp only [List.length_drop, List.length_take]; rfl)) ?_; (with_reducible refine (natural_Root.calls kj2 a0 (wrap64 (1 + (Int.tmod (wrap64 (a1)) 40))) t695 t696 _ A14.out).mono ?_); rintro e w56 ⟨rfl, hb⟩; refine ⟨_, rfl, ?_⟩; have n0_ := Aside0.mk (below_step (by repeat (first | (with_reducible first | exact HB.out | apply below_alloc | apply pw_below_drewN | apply below_drew1) | exact HB.out)) hb); clear HB; have HB := n0_; clear n0_; (try clear hb); (try clear hb2); (try clear hk); (try clear hi)) | ((with_reducible refine gate_callee (f := 27) rfl ?_); refine goesL_ (some 43) rfl rfl Try.func27 (by kernel_rfl) rfl #[.int .i64 1] rfl (by (try simp only [List.map_toArray, List.map_cons, List.map_nil]); first | done | rfl | (simp only [List.length_drop, List.length_take]; rfl)) ?_; (with_reducible refine (galoislaw01_nat.calls kj2 1 t697 _ A15.out).mono ?_); rintro e w57 ⟨rfl, hb⟩; refine ⟨_, rfl, ?_⟩; have n0_ := Aside0.mk (below_step (by repeat (first | (with_reducible first | exact HB.out | apply below_alloc | apply pw_below_drewN | apply below_drew1) | exact HB.out)) hb); clear HB; have HB := n0_; clear n0_; (try clear hb); (try clear hb2); (try clear hk); (try clear hi)) | ((with_reducible refine gate_callee (f := 35) rfl ?_); refine goesL_ (some 44) rfl rfl Try.func35 (by kernel_rfl) rfl #[.string t695, .string t697] rfl (by (try simp only [List.map_toArray, List.map_cons, List.map_nil]); first | done | rfl | (simp only [List.length_drop, List.length_take]; rfl)) ?_; (with_reducible refine (natural_Add.calls kj2 t695 t697 t698 t699 _ A16.out).mono ?_); rintro e w58 ⟨rfl, hb⟩; refine ⟨_, rfl, ?_⟩; have n0_ := Aside0.mk (below_step (by repeat (first | (with_reducible first | exact HB.out | apply below_alloc | apply pw_below_drewN | apply below_drew1) | exact HB.out)) hb); clear HB; have HB := n0_; clear n0_; (try clear hb); (try clear hb2); (try clear hk); (try clear hi)) | ((with_reducible refine gate_callee (f := 20) rfl ?_); refine goesL_ (some 50) rfl rfl Try.func20 (by kernel_rfl) rfl #[.string t695, .int .i64 (wrap64 (1 + (Int.tmod (wrap64 (a1)) 40)))] rfl (by (try simp only [List.map_toArray, List.map_cons, List.map_nil]); first | done | rfl | (simp only [List.length_drop, List.length_take]; rfl)) ?_; (with_reducible refine (natural_Pow.calls kj2 t695 (wrap64 (1 + (Int.tmod (wrap64 (a1)) 40))) t700 t701 _ A17.out).mono ?_); rintro e w59 ⟨rfl, hb⟩; refine ⟨_, rfl, ?_⟩; have n0_ := Aside0.mk (below_step (by repeat (first | (with_reducible first | exact HB.out | apply below_alloc | apply pw_below_drewN | apply below_drew1) | exact HB.out)) hb); clear HB; have HB := n0_; clear n0_; (try clear hb); (try clear hb2); (try clear hk); (try clear hi)) | ((with_reducible refine gate_callee (f := 20) rfl ?_); refine goesL_ (some 56) rfl rfl Try.func20 (by kernel_rfl) rfl #[.string t698, .int .i64 (wrap64 (1 + (Int.tmod (wrap64 (a1)) 40)))] rfl (by (try simp only [List.map_toArray, List.map_cons, List.map_nil]); first | done | rfl | (simp only [List.length_drop, List.length_take]; rfl)) ?_; (with_reducible refine (natural_Pow.calls kj2 t698 (wrap64 (1 + (Int.tmod (wrap64 (a1)) 40))) t702 t703 _ A18.out).mono ?_); rintro e w60 ⟨rfl, hb⟩; refine ⟨_, rfl, ?_⟩; have n0_ := Aside0.mk (below_step (by repeat (first | (with_reducible first | exact HB.out | apply below_alloc | apply pw_below_drewN | apply below_drew1) | exact HB.out)) hb); clear HB; have HB := n0_; clear n0_; (try clear hb); (try clear hb2); (try clear hk); (try clear hi)) | ((with_reducible refine gate_callee (f := 36) rfl ?_); refine goesL_ (some 62) rfl rfl Try.func36 (by kernel_rfl) rfl #[.string t700, .string a0] rfl (by (try simp only [List.map_toArray, List.map_cons, List.map_nil]); first | done | rfl | (simp only [List.length_drop, List.length_take]; rfl)) ?_; (with_reducible refine (natural_Compare.calls kj2 t700 a0 t704 t705 _ A19.out).mono ?_); rintro e w61 ⟨rfl, hb⟩; refine ⟨_, rfl, ?_⟩; have n0_ := Aside0.mk (below_step (by repeat (first | (with_reducible first | exact HB.out | apply below_alloc | apply pw_below_drewN | apply below_drew1) | exact HB.out)) hb); clear HB; have HB := n0_; clear n0_; (try clear hb); (try clear hb2); (try clear hk); (try clear hi)) | ((with_reducible refine gate_callee (f := 36) rfl ?_); refine goesL_ (some 68) rfl rfl Try.func36 (by kernel_rfl) rfl #[.string a0, .string t702] rfl (by (try simp only [List.map_toArray, List.map_cons, List.map_nil]); first | done | rfl | (simp only [List.length_drop, List.length_take]; rfl)) ?_; (with_reducible refine (natural_Compare.calls kj2 a0 t702 t706 t707 _ A20.out).mono ?_); rintro e w62 ⟨rfl, hb⟩; refine ⟨_, rfl, ?_⟩; have n0_ := Aside0.mk (below_step (by repeat (first | (with_reducible first | exact HB.out | apply below_alloc | apply pw_below_drewN | apply below_drew1) | exact HB.out)) hb); clear HB; have HB := n0_; clear n0_; (try clear hb); (try clear hb2); (try clear hk); (try clear hi)))
        go_ret
        exact ⟨by first | rfl | (simp [errW_none, errW_some] <;> rfl) | (simp [*, errW_none, errW_some] <;> rfl), by repeat (first | (with_reducible first | exact HB.out | apply below_alloc | apply pw_below_drewN | apply below_drew1) | exact HB.out)⟩
      ·rw [if_neg c23] at H
       have c23b0 : (t701 == 0) = false := beq_eq_false_iff_ne.mpr c23
       have c23b1 : (t701 != 0) = true := bne_iff_ne.mpr c23
       obtain rfl := Option.some.inj H
       go_wp2_with (first | ((with_reducible refine gate_callee (f := 21) rfl ?_); refine goesL_ (some 38) rfl rfl Try.func21 (by kernel_rfl) rfl #[.string a0, .int .i64 (wrap64 (1 + (Int.tmod (wrap64 (a1)) 40)))] rfl (by (try simp only [List.map_toArray, List.map_cons, List.map_nil]); first | done | rfl | (simp only [List.length_drop, List.length_take]; rfl)) ?_; (with_reducible refine (natural_Root.calls kj2 a0 (wrap64 (1 + (Int.tmod (wrap64 (a1)) 40))) t695 t696 _ A14.out).mono ?_); rintro e w63 ⟨rfl, hb⟩; refine ⟨_, rfl, ?_⟩; have n0_ := Aside0.mk (below_step (by repeat (first | (with_reducible first | exact HB.out | apply below_alloc | apply pw_below_drewN | apply below_drew1) | exact HB.out)) hb); clear HB; have HB := n0_; clear n0_; (try clear hb); (try clear hb2); (try clear hk); (try clear hi)) | ((with_reducible refine gate_callee (f := 27) rfl ?_); refine goesL_ (some 43) rfl rfl Try.func27 (by kernel_rfl) rfl #[.int .i64 1] rfl (by (try simp only [List.map_toArray, List.map_cons, List.map_nil]); first | done | rfl | (simp only [List.length_drop, List.length_take]; rfl)) ?_; (with_reducible refine (galoislaw01_nat.calls kj2 1 t697 _ A15.out).mono ?_); rintro e w64 ⟨rfl, hb⟩; refine ⟨_, rfl, ?_⟩; have n0_ := Aside0.mk (below_step (by repeat (first | (with_reducible first | exact HB.out | apply below_alloc | apply pw_below_drewN | apply below_drew1) | exact HB.out)) hb); clear HB; have HB := n0_; clear n0_; (try clear hb); (try clear hb2); (try clear hk); (try clear hi)) | ((with_reducible refine gate_callee (f := 35) rfl ?_); refine goesL_ (some 44) rfl rfl Try.func35 (by kernel_rfl) rfl #[.string t695, .string t697] rfl (by (try simp only [List.map_toArray, List.map_cons, List.map_nil]); first | done | rfl | (simp only [List.length_drop, List.length_take]; rfl)) ?_; (with_reducible refine (natural_Add.calls kj2 t695 t697 t698 t699 _ A16.out).mono ?_); rintro e w65 ⟨rfl, hb⟩; refine ⟨_, rfl, ?_⟩; have n0_ := Aside0.mk (below_step (by repeat (first | (with_reducible first | exact HB.out | apply below_alloc | apply pw_below_drewN | apply below_drew1) | exact HB.out)) hb); clear HB; have HB := n0_; clear n0_; (try clear hb); (try clear hb2); (try clear hk); (try clear hi)) | ((with_reducible refine gate_callee (f := 20) rfl ?_); refine goesL_ (some 50) rfl rfl Try.func20 (by kernel_rfl) rfl #[.string t695, .int .i64 (wrap64 (1 + (Int.tmod (wrap64 (a1)) 40)))] rfl (by (try simp only [List.map_toArray, List.map_cons, List.map_nil]); first | done | rfl | (simp only [List.length_drop, List.length_take]; rfl)) ?_; (with_reducible refine (natural_Pow.calls kj2 t695 (wrap64 (1 + (Int.tmod (wrap64 (a1)) 40))) t700 t701 _ A17.out).mono ?_); rintro e w66 ⟨rfl, hb⟩; refine ⟨_, rfl, ?_⟩; have n0_ := Aside0.mk (below_step (by repeat (first | (with_reducible first | exact HB.out | apply below_alloc | apply pw_below_drewN | apply below_drew1) | exact HB.out)) hb); clear HB; have HB := n0_; clear n0_; (try clear hb); (try clear hb2); (try clear hk); (try clear hi)) | ((with_reducible refine gate_callee (f := 20) rfl ?_); refine goesL_ (some 56) rfl rfl Try.func20 (by kernel_rfl) rfl #[.string t698, .int .i64 (wrap64 (1 + (Int.tmod (wrap64 (a1)) 40)))] rfl (by (try simp only [List.map_toArray, List.map_cons, List.map_nil]); first | done | rfl | (simp only [List.length_drop, List.length_take]; rfl)) ?_; (with_reducible refine (natural_Pow.calls kj2 t698 (wrap64 (1 + (Int.tmod (wrap64 (a1)) 40))) t702 t703 _ A18.out).mono ?_); rintro e w67 ⟨rfl, hb⟩; refine ⟨_, rfl, ?_⟩; have n0_ := Aside0.mk (below_step (by repeat (first | (with_reducible first | exact HB.out | apply below_alloc | apply pw_below_drewN | apply below_drew1) | exact HB.out)) hb); clear HB; have HB := n0_; clear n0_; (try clear hb); (try clear hb2); (try clear hk); (try clear hi)) | ((with_reducible refine gate_callee (f := 36) rfl ?_); refine goesL_ (some 62) rfl rfl Try.func36 (by kernel_rfl) rfl #[.string t700, .string a0] rfl (by (try simp only [List.map_toArray, List.map_cons, List.map_nil]); first | done | rfl | (simp only [List.length_drop, List.length_take]; rfl)) ?_; (with_reducible refine (natural_Compare.calls kj2 t700 a0 t704 t705 _ A19.out).mono ?_); rintro e w68 ⟨rfl, hb⟩; refine ⟨_, rfl, ?_⟩; have n0_ := Aside0.mk (below_step (by repeat (first | (with_reducible first | exact HB.out | apply below_alloc | apply pw_below_drewN | apply below_drew1) | exact HB.out)) hb); clear HB; have HB := n0_; clear n0_; (try clear hb); (try clear hb2); (try clear hk); (try clear hi)) | ((with_reducible refine gate_callee (f := 36) rfl ?_); refine goesL_ (some 68) rfl rfl Try.func36 (by kernel_rfl) rfl #[.string a0, .string t702] rfl (by (try simp only [List.map_toArray, List.map_cons, List.map_nil]); first | done | rfl | (simp only [List.length_drop, List.length_take]; rfl)) ?_; (with_reducible refine (natural_Compare.calls kj2 a0 t702 t706 t707 _ A20.out).mono ?_); rintro e w69 ⟨rfl, hb⟩; refine ⟨_, rfl, ?_⟩; have n0_ := Aside0.mk (below_step (by repeat (first | (with_reducible first | exact HB.out | apply below_alloc | apply pw_below_drewN | apply below_drew1) | exact HB.out)) hb); clear HB; have HB := n0_; clear n0_; (try clear hb); (try clear hb2); (try clear hk); (try clear hi)))
       go_ret
       exact ⟨by first | rfl | (simp [errW_none, errW_some] <;> rfl) | (simp [*, errW_none, errW_some] <;> rfl), by repeat (first | (with_reducible first | exact HB.out | apply below_alloc | apply pw_below_drewN | apply below_drew1) | exact HB.out)⟩
     ·rw [if_neg c22] at H
      have c22b0 : (t699 == 0) = false := beq_eq_false_iff_ne.mpr c22
      have c22b1 : (t699 != 0) = true := bne_iff_ne.mpr c22
      obtain rfl := Option.some.inj H
      go_wp2_with (first | ((with_reducible refine gate_callee (f := 21) rfl ?_); refine goesL_ (some 38) rfl rfl Try.func21 (by kernel_rfl) rfl #[.string a0, .int .i64 (wrap64 (1 + (Int.tmod (wrap64 (a1)) 40)))] rfl (by (try simp only [List.map_toArray, List.map_cons, List.map_nil]); first | done | rfl | (simp only [List.length_drop, List.length_take]; rfl)) ?_; (with_reducible refine (natural_Root.calls kj2 a0 (wrap64 (1 + (Int.tmod (wrap64 (a1)) 40))) t695 t696 _ A14.out).mono ?_); rintro e w70 ⟨rfl, hb⟩; refine ⟨_, rfl, ?_⟩; have n0_ := Aside0.mk (below_step (by repeat (first | (with_reducible first | exact HB.out | apply below_alloc | apply pw_below_drewN | apply below_drew1) | exact HB.out)) hb); clear HB; have HB := n0_; clear n0_; (try clear hb); (try clear hb2); (try clear hk); (try clear hi)) | ((with_reducible refine gate_callee (f := 27) rfl ?_); refine goesL_ (some 43) rfl rfl Try.func27 (by kernel_rfl) rfl #[.int .i64 1] rfl (by (try simp only [List.map_toArray, List.map_cons, List.map_nil]); first | done | rfl | (simp only [List.length_drop, List.length_take]; rfl)) ?_; (with_reducible refine (galoislaw01_nat.calls kj2 1 t697 _ A15.out).mono ?_); rintro e w71 ⟨rfl, hb⟩; refine ⟨_, rfl, ?_⟩; have n0_ := Aside0.mk (below_step (by repeat (first | (with_reducible first | exact HB.out | apply below_alloc | apply pw_below_drewN | apply below_drew1) | exact HB.out)) hb); clear HB; have HB := n0_; clear n0_; (try clear hb); (try clear hb2); (try clear hk); (try clear hi)) | ((with_reducible refine gate_callee (f := 35) rfl ?_); refine goesL_ (some 44) rfl rfl Try.func35 (by kernel_rfl) rfl #[.string t695, .string t697] rfl (by (try simp only [List.map_toArray, List.map_cons, List.map_nil]); first | done | rfl | (simp only [List.length_drop, List.length_take]; rfl)) ?_; (with_reducible refine (natural_Add.calls kj2 t695 t697 t698 t699 _ A16.out).mono ?_); rintro e w72 ⟨rfl, hb⟩; refine ⟨_, rfl, ?_⟩; have n0_ := Aside0.mk (below_step (by repeat (first | (with_reducible first | exact HB.out | apply below_alloc | apply pw_below_drewN | apply below_drew1) | exact HB.out)) hb); clear HB; have HB := n0_; clear n0_; (try clear hb); (try clear hb2); (try clear hk); (try clear hi)) | ((with_reducible refine gate_callee (f := 20) rfl ?_); refine goesL_ (some 50) rfl rfl Try.func20 (by kernel_rfl) rfl #[.string t695, .int .i64 (wrap64 (1 + (Int.tmod (wrap64 (a1)) 40)))] rfl (by (try simp only [List.map_toArray, List.map_cons, List.map_nil]); first | done | rfl | (simp only [List.length_drop, List.length_take]; rfl)) ?_; (with_reducible refine (natural_Pow.calls kj2 t695 (wrap64 (1 + (Int.tmod (wrap64 (a1)) 40))) t700 t701 _ A17.out).mono ?_); rintro e w73 ⟨rfl, hb⟩; refine ⟨_, rfl, ?_⟩; have n0_ := Aside0.mk (below_step (by repeat (first | (with_reducible first | exact HB.out | apply below_alloc | apply pw_below_drewN | apply below_drew1) | exact HB.out)) hb); clear HB; have HB := n0_; clear n0_; (try clear hb); (try clear hb2); (try clear hk); (try clear hi)) | ((with_reducible refine gate_callee (f := 20) rfl ?_); refine goesL_ (some 56) rfl rfl Try.func20 (by kernel_rfl) rfl #[.string t698, .int .i64 (wrap64 (1 + (Int.tmod (wrap64 (a1)) 40)))] rfl (by (try simp only [List.map_toArray, List.map_cons, List.map_nil]); first | done | rfl | (simp only [List.length_drop, List.length_take]; rfl)) ?_; (with_reducible refine (natural_Pow.calls kj2 t698 (wrap64 (1 + (Int.tmod (wrap64 (a1)) 40))) t702 t703 _ A18.out).mono ?_); rintro e w74 ⟨rfl, hb⟩; refine ⟨_, rfl, ?_⟩; have n0_ := Aside0.mk (below_step (by repeat (first | (with_reducible first | exact HB.out | apply below_alloc | apply pw_below_drewN | apply below_drew1) | exact HB.out)) hb); clear HB; have HB := n0_; clear n0_; (try clear hb); (try clear hb2); (try clear hk); (try clear hi)) | ((with_reducible refine gate_callee (f := 36) rfl ?_); refine goesL_ (some 62) rfl rfl Try.func36 (by kernel_rfl) rfl #[.string t700, .string a0] rfl (by (try simp only [List.map_toArray, List.map_cons, List.map_nil]); first | done | rfl | (simp only [List.length_drop, List.length_take]; rfl)) ?_; (with_reducible refine (natural_Compare.calls kj2 t700 a0 t704 t705 _ A19.out).mono ?_); rintro e w75 ⟨rfl, hb⟩; refine ⟨_, rfl, ?_⟩; have n0_ := Aside0.mk (below_step (by repeat (first | (with_reducible first | exact HB.out | apply below_alloc | apply pw_below_drewN | apply below_drew1) | exact HB.out)) hb); clear HB; have HB := n0_; clear n0_; (try clear hb); (try clear hb2); (try clear hk); (try clear hi)) | ((with_reducible refine gate_callee (f := 36) rfl ?_); refine goesL_ (some 68) rfl rfl Try.func36 (by kernel_rfl) rfl #[.string a0, .string t702] rfl (by (try simp only [List.map_toArray, List.map_cons, List.map_nil]); first | done | rfl | (simp only [List.length_drop, List.length_take]; rfl)) ?_; (with_reducible refine (natural_Compare.calls kj2 a0 t702 t706 t707 _ A20.out).mono ?_); rintro e w76 ⟨rfl, hb⟩; refine ⟨_, rfl, ?_⟩; have n0_ := Aside0.mk (below_step (by repeat (first | (with_reducible first | exact HB.out | apply below_alloc | apply pw_below_drewN | apply below_drew1) | exact HB.out)) hb); clear HB; have HB := n0_; clear n0_; (try clear hb); (try clear hb2); (try clear hk); (try clear hi)))
      go_ret
      exact ⟨by first | rfl | (simp [errW_none, errW_some] <;> rfl) | (simp [*, errW_none, errW_some] <;> rfl), by repeat (first | (with_reducible first | exact HB.out | apply below_alloc | apply pw_below_drewN | apply below_drew1) | exact HB.out)⟩
    ·rw [if_neg c21] at H
     have c21b0 : (t696 == 0) = false := beq_eq_false_iff_ne.mpr c21
     have c21b1 : (t696 != 0) = true := bne_iff_ne.mpr c21
     obtain rfl := Option.some.inj H
     go_wp2_with (first | ((with_reducible refine gate_callee (f := 21) rfl ?_); refine goesL_ (some 38) rfl rfl Try.func21 (by kernel_rfl) rfl #[.string a0, .int .i64 (wrap64 (1 + (Int.tmod (wrap64 (a1)) 40)))] rfl (by (try simp only [List.map_toArray, List.map_cons, List.map_nil]); first | done | rfl | (simp only [List.length_drop, List.length_take]; rfl)) ?_; (with_reducible refine (natural_Root.calls kj2 a0 (wrap64 (1 + (Int.tmod (wrap64 (a1)) 40))) t695 t696 _ A14.out).mono ?_); rintro e w77 ⟨rfl, hb⟩; refine ⟨_, rfl, ?_⟩; have n0_ := Aside0.mk (below_step (by repeat (first | (with_reducible first | exact HB.out | apply below_alloc | apply pw_below_drewN | apply below_drew1) | exact HB.out)) hb); clear HB; have HB := n0_; clear n0_; (try clear hb); (try clear hb2); (try clear hk); (try clear hi)) | ((with_reducible refine gate_callee (f := 27) rfl ?_); refine goesL_ (some 43) rfl rfl Try.func27 (by kernel_rfl) rfl #[.int .i64 1] rfl (by (try simp only [List.map_toArray, List.map_cons, List.map_nil]); first | done | rfl | (simp only [List.length_drop, List.length_take]; rfl)) ?_; (with_reducible refine (galoislaw01_nat.calls kj2 1 t697 _ A15.out).mono ?_); rintro e w78 ⟨rfl, hb⟩; refine ⟨_, rfl, ?_⟩; have n0_ := Aside0.mk (below_step (by repeat (first | (with_reducible first | exact HB.out | apply below_alloc | apply pw_below_drewN | apply below_drew1) | exact HB.out)) hb); clear HB; have HB := n0_; clear n0_; (try clear hb); (try clear hb2); (try clear hk); (try clear hi)) | ((with_reducible refine gate_callee (f := 35) rfl ?_); refine goesL_ (some 44) rfl rfl Try.func35 (by kernel_rfl) rfl #[.string t695, .string t697] rfl (by (try simp only [List.map_toArray, List.map_cons, List.map_nil]); first | done | rfl | (simp only [List.length_drop, List.length_take]; rfl)) ?_; (with_reducible refine (natural_Add.calls kj2 t695 t697 t698 t699 _ A16.out).mono ?_); rintro e w79 ⟨rfl, hb⟩; refine ⟨_, rfl, ?_⟩; have n0_ := Aside0.mk (below_step (by repeat (first | (with_reducible first | exact HB.out | apply below_alloc | apply pw_below_drewN | apply below_drew1) | exact HB.out)) hb); clear HB; have HB := n0_; clear n0_; (try clear hb); (try clear hb2); (try clear hk); (try clear hi)) | ((with_reducible refine gate_callee (f := 20) rfl ?_); refine goesL_ (some 50) rfl rfl Try.func20 (by kernel_rfl) rfl #[.string t695, .int .i64 (wrap64 (1 + (Int.tmod (wrap64 (a1)) 40)))] rfl (by (try simp only [List.map_toArray, List.map_cons, List.map_nil]); first | done | rfl | (simp only [List.length_drop, List.length_take]; rfl)) ?_; (with_reducible refine (natural_Pow.calls kj2 t695 (wrap64 (1 + (Int.tmod (wrap64 (a1)) 40))) t700 t701 _ A17.out).mono ?_); rintro e w80 ⟨rfl, hb⟩; refine ⟨_, rfl, ?_⟩; have n0_ := Aside0.mk (below_step (by repeat (first | (with_reducible first | exact HB.out | apply below_alloc | apply pw_below_drewN | apply below_drew1) | exact HB.out)) hb); clear HB; have HB := n0_; clear n0_; (try clear hb); (try clear hb2); (try clear hk); (try clear hi)) | ((with_reducible refine gate_callee (f := 20) rfl ?_); refine goesL_ (some 56) rfl rfl Try.func20 (by kernel_rfl) rfl #[.string t698, .int .i64 (wrap64 (1 + (Int.tmod (wrap64 (a1)) 40)))] rfl (by (try simp only [List.map_toArray, List.map_cons, List.map_nil]); first | done | rfl | (simp only [List.length_drop, List.length_take]; rfl)) ?_; (with_reducible refine (natural_Pow.calls kj2 t698 (wrap64 (1 + (Int.tmod (wrap64 (a1)) 40))) t702 t703 _ A18.out).mono ?_); rintro e w81 ⟨rfl, hb⟩; refine ⟨_, rfl, ?_⟩; have n0_ := Aside0.mk (below_step (by repeat (first | (with_reducible first | exact HB.out | apply below_alloc | apply pw_below_drewN | apply below_drew1) | exact HB.out)) hb); clear HB; have HB := n0_; clear n0_; (try clear hb); (try clear hb2); (try clear hk); (try clear hi)) | ((with_reducible refine gate_callee (f := 36) rfl ?_); refine goesL_ (some 62) rfl rfl Try.func36 (by kernel_rfl) rfl #[.string t700, .string a0] rfl (by (try simp only [List.map_toArray, List.map_cons, List.map_nil]); first | done | rfl | (simp only [List.length_drop, List.length_take]; rfl)) ?_; (with_reducible refine (natural_Compare.calls kj2 t700 a0 t704 t705 _ A19.out).mono ?_); rintro e w82 ⟨rfl, hb⟩; refine ⟨_, rfl, ?_⟩; have n0_ := Aside0.mk (below_step (by repeat (first | (with_reducible first | exact HB.out | apply below_alloc | apply pw_below_drewN | apply below_drew1) | exact HB.out)) hb); clear HB; have HB := n0_; clear n0_; (try clear hb); (try clear hb2); (try clear hk); (try clear hi)) | ((with_reducible refine gate_callee (f := 36) rfl ?_); refine goesL_ (some 68) rfl rfl Try.func36 (by kernel_rfl) rfl #[.string a0, .string t702] rfl (by (try simp only [List.map_toArray, List.map_cons, List.map_nil]); first | done | rfl | (simp only [List.length_drop, List.length_take]; rfl)) ?_; (with_reducible refine (natural_Compare.calls kj2 a0 t702 t706 t707 _ A20.out).mono ?_); rintro e w83 ⟨rfl, hb⟩; refine ⟨_, rfl, ?_⟩; have n0_ := Aside0.mk (below_step (by repeat (first | (with_reducible first | exact HB.out | apply below_alloc | apply pw_below_drewN | apply below_drew1) | exact HB.out)) hb); clear HB; have HB := n0_; clear n0_; (try clear hb); (try clear hb2); (try clear hk); (try clear hi)))
     go_ret
     exact ⟨by first | rfl | (simp [errW_none, errW_some] <;> rfl) | (simp [*, errW_none, errW_some] <;> rfl), by repeat (first | (with_reducible first | exact HB.out | apply below_alloc | apply pw_below_drewN | apply below_drew1) | exact HB.out)⟩
def galoislaw01_NaturalRoots.Pure : Prop := ∀ (a0 : ByteArray) (a1 : Int), a0.size ≤ 140737488351232 → (Lit.int .u8 a1).wf = true → ∃ k, galoislaw01_NaturalRoots.f k a0 a1 = some true
theorem galoislaw01_NaturalRoots.walk (P : galoislaw01_NaturalRoots.Pure) (a0 : ByteArray) (a1 : Int) (w : World) (w0 : a0.size ≤ 140737488351232) (w1 : (Lit.int .u8 a1).wf = true) :
  Calls Try.prog 7 #[.string a0, .int .u8 a1] w fun e w' => e = .returned (.bool true) ∧ Below w.heap.size w w' := by
 obtain ⟨k, h⟩ := P a0 a1 w0 w1
 refine (galoislaw01_NaturalRoots.calls k a0 a1 true w h).mono ?_
 rintro e w' ⟨rfl, hd⟩
 exact ⟨rfl, hd⟩
end Go.Proofs.Ytohkmnbnjacfaaa.All
set_option linter.unusedVariables false
namespace Go.Proofs.YtohkmnbnjacfaaaN
open Go.Proofs.YtohkmnbnjacfaaaW.PrintWords
def vB (B : Int) : List Int → Int
  | [] => 0
  | x :: xs => x + B * vB B xs
def Dig (B : Int) (l : List Int) : Prop := ∀ x, x ∈ l → 0 ≤ x ∧ x < B
def Trim (l : List Int) : Prop := 0 < l.length → rd l (l.length - 1 : Nat) ≠ 0
theorem vB_cons (B x : Int) (xs : List Int) : vB B (x :: xs) = x + B * vB B xs := rfl
theorem Dig_nil (B : Int) : Dig B [] := fun _ h => absurd h (List.not_mem_nil)
theorem Dig_cons {B x : Int} {xs : List Int} : Dig B (x :: xs) ↔ (0 ≤ x ∧ x < B) ∧ Dig B xs := by
  constructor
  · intro h
    exact ⟨h x (List.mem_cons_self), fun y hy => h y (List.mem_cons_of_mem _ hy)⟩
  · rintro ⟨h1, h2⟩ y hy
    rcases List.mem_cons.1 hy with rfl | hy
    · exact h1
    · exact h2 y hy
theorem Dig_take {B : Int} {xs : List Int} (h : Dig B xs) (n : Nat) : Dig B (xs.take n) := fun z hz => h z (List.mem_of_mem_take hz)
theorem Dig_drop {B : Int} {xs : List Int} (h : Dig B xs) (n : Nat) : Dig B (xs.drop n) := fun z hz => h z (List.mem_of_mem_drop hz)
theorem Dig_set {B : Int} {xs : List Int} (h : Dig B xs) (n : Nat) {v : Int} (h0 : 0 ≤ v) (h1 : v < B) : Dig B (xs.set n v) := by
  intro z hz
  rcases List.mem_or_eq_of_mem_set hz with hz | rfl
  · exact h z hz
  · exact ⟨h0, h1⟩
theorem Dig_replicate {B : Int} (hB : 0 < B) (n : Nat) : Dig B (List.replicate n 0) := by
  intro z hz
  rw [List.eq_of_mem_replicate hz]
  exact ⟨Int.le_refl _, hB⟩
theorem Dig_reverse {B : Int} {xs : List Int} (h : Dig B xs) : Dig B xs.reverse := fun z hz => h z (List.mem_reverse.1 hz)
theorem rd_nat (xs : List Int) (n : Nat) : rd xs (n : Int) = xs.getD n 0 := by simp [rd]
theorem rd_get (xs : List Int) (n : Nat) (h : n < xs.length) : rd xs (n : Int) = xs[n] := by
  rw [rd_nat, List.getD_eq_getElem?_getD, List.getElem?_eq_getElem h]
  rfl
theorem Dig_rd {B : Int} {xs : List Int} (h : Dig B xs) (n : Nat) (hn : n < xs.length) : 0 ≤ rd xs (n : Int) ∧ rd xs (n : Int) < B := by
  rw [rd_get xs n hn]
  exact h _ (List.getElem_mem hn)
theorem Dig_rd0 {B : Int} (hB : 0 < B) {xs : List Int} (h : Dig B xs) (n : Nat) : 0 ≤ rd xs (n : Int) ∧ rd xs (n : Int) < B := by
  rcases Nat.lt_or_ge n xs.length with hn | hn
  · exact Dig_rd h n hn
  · rw [rd_nat, List.getD_eq_getElem?_getD, List.getElem?_eq_none hn]
    exact ⟨Int.le_refl _, hB⟩
theorem vB_append (B : Int) (xs ys : List Int) : vB B (xs ++ ys) = vB B xs + B ^ xs.length * vB B ys := by
  induction xs with
  | nil => simp [vB]
  | cons x xs ih =>
    rw [List.cons_append, vB_cons, ih, vB_cons, List.length_cons, Int.pow_succ, Int.mul_add, ← Int.add_assoc, ← Int.mul_assoc, Int.mul_comm B (B ^ xs.length)]
theorem vB_replicate (B : Int) (n : Nat) : vB B (List.replicate n 0) = 0 := by
  induction n with
  | zero => rfl
  | succ n ih => rw [List.replicate_succ, vB_cons, ih]; simp
theorem vB_nonneg {B : Int} (hB : 0 ≤ B) {l : List Int} (h : Dig B l) : 0 ≤ vB B l := by
  induction l with
  | nil => exact Int.le_refl _
  | cons x xs ih =>
    have := Dig_cons.1 h
    rw [vB_cons]
    exact Int.add_nonneg this.1.1 (Int.mul_nonneg hB (ih this.2))
theorem vB_lt {B : Int} (hB : 0 < B) {l : List Int} (h : Dig B l) : vB B l < B ^ l.length := by
  induction l with
  | nil => simp [vB]
  | cons x xs ih =>
    have hd := Dig_cons.1 h
    have h1 := ih hd.2
    rw [vB_cons, List.length_cons, Int.pow_succ, Int.mul_comm (B ^ xs.length) B]
    have h2 : B * (vB B xs + 1) ≤ B * B ^ xs.length := Int.mul_le_mul_of_nonneg_left (by omega) (by omega)
    rw [Int.mul_add, Int.mul_one] at h2
    omega
theorem vB_split (B : Int) (l : List Int) (n : Nat) (h : n ≤ l.length) : vB B l = vB B (l.take n) + B ^ n * vB B (l.drop n) := by
  conv => lhs; rw [← List.take_append_drop n l]
  rw [vB_append, List.length_take, Nat.min_eq_left h]
theorem vB_take_succ (B : Int) (l : List Int) (n : Nat) (h : n < l.length) : vB B (l.take (n + 1)) = vB B (l.take n) + B ^ n * rd l (n : Int) := by
  rw [List.take_succ_eq_append_getElem h, vB_append, List.length_take, Nat.min_eq_left (by omega), rd_get l n h]
  simp [vB]
theorem vB_set (B : Int) (l : List Int) (n : Nat) (v : Int) (h : n < l.length) : vB B (l.set n v) = vB B l + B ^ n * (v - rd l (n : Int)) := by
  induction l generalizing n with
  | nil => simp at h
  | cons x xs ih =>
    cases n with
    | zero => simp [vB, rd]; omega
    | succ n =>
      have h' : n < xs.length := by simpa using h
      rw [List.set_cons_succ, vB_cons, ih n h', vB_cons]
      have : rd (x :: xs) ((n + 1 : Nat) : Int) = rd xs (n : Int) := by rw [rd_nat, rd_nat]; simp
      rw [this, Int.pow_succ, Int.mul_add, ← Int.add_assoc, ← Int.mul_assoc, Int.mul_comm B (B ^ n)]
theorem rd_set_self (l : List Int) (n : Nat) (v : Int) (h : n < l.length) : rd (l.set n v) (n : Int) = v := by
  rw [rd_get _ n (by simpa using h), List.getElem_set_self]
theorem rd_set_ne (l : List Int) (n m : Nat) (v : Int) (h : n ≠ m) : rd (l.set n v) (m : Int) = rd l (m : Int) := by
  rw [rd_nat, rd_nat, List.getD_eq_getElem?_getD, List.getD_eq_getElem?_getD, List.getElem?_set_ne h]
theorem rd_take (xs : List Int) (n m : Nat) (h : m < n) : rd (xs.take n) (m : Int) = rd xs (m : Int) := by
  rw [rd_nat, rd_nat, List.getD_eq_getElem?_getD, List.getD_eq_getElem?_getD, List.getElem?_take_of_lt h]
theorem rd_drop (xs : List Int) (n m : Nat) : rd (xs.drop n) (m : Int) = rd xs ((n + m : Nat) : Int) := by
  rw [rd_nat, rd_nat, List.getD_eq_getElem?_getD, List.getD_eq_getElem?_getD, List.getElem?_drop]
theorem rd_replicate (n m : Nat) : rd (List.replicate n 0) (m : Int) = 0 := by
  rw [rd_nat, List.getD_eq_getElem?_getD, List.getElem?_replicate]
  split <;> rfl
theorem dig_inj {B : Int} (hB : 0 < B) : ∀ {l m : List Int}, Dig B l → Dig B m → l.length = m.length → vB B l = vB B m → l = m
  | [], [], _, _, _, _ => rfl
  | [], y :: ys, _, _, h, _ => by simp at h
  | x :: xs, [], _, _, h, _ => by simp at h
  | x :: xs, y :: ys, hl, hm, h, hv => by
    have h1 := Dig_cons.1 hl
    have h2 := Dig_cons.1 hm
    rw [vB_cons, vB_cons] at hv
    have hx : x = y := by
      have e1 : (x + B * vB B xs) % B = x := by rw [Int.add_mul_emod_self_left, Int.emod_eq_of_lt h1.1.1 h1.1.2]
      have e2 : (y + B * vB B ys) % B = y := by rw [Int.add_mul_emod_self_left, Int.emod_eq_of_lt h2.1.1 h2.1.2]
      rw [← e1, ← e2, hv]
    subst hx
    have hv' : B * vB B xs = B * vB B ys := by omega
    have := Int.eq_of_mul_eq_mul_left (by omega) hv'
    rw [dig_inj hB h1.2 h2.2 (by simpa using h) this]
theorem trim_le {B : Int} (hB : 0 < B) {l : List Int} (h : Dig B l) (ht : Trim l) (hp : 0 < l.length) : B ^ (l.length - 1) ≤ vB B l := by
  have e : l.take (l.length - 1 + 1) = l := List.take_of_length_le (by omega)
  have h1 := vB_take_succ B l (l.length - 1) (by omega)
  rw [e] at h1
  rw [h1]
  have h2 := vB_nonneg (Int.le_of_lt hB) (Dig_take h (l.length - 1))
  have h3 := (Dig_rd h (l.length - 1) (by omega)).1
  have h4 : 1 ≤ rd l ((l.length - 1 : Nat) : Int) := by have := ht hp; omega
  have h5 : B ^ (l.length - 1) * 1 ≤ B ^ (l.length - 1) * rd l ((l.length - 1 : Nat) : Int) := Int.mul_le_mul_of_nonneg_left h4 (Int.le_of_lt (Int.pow_pos hB))
  rw [Int.mul_one] at h5
  omega
theorem pow_le_pow {B : Int} (hB : 0 < B) {m n : Nat} (h : m ≤ n) : B ^ m ≤ B ^ n := by
  obtain ⟨j, rfl⟩ : ∃ j, n = m + j := ⟨n - m, by omega⟩
  rw [Int.pow_add]
  have h1 : 1 ≤ B ^ j := by have : 0 < B ^ j := Int.pow_pos hB; omega
  have h2 : B ^ m * 1 ≤ B ^ m * B ^ j := Int.mul_le_mul_of_nonneg_left h1 (Int.le_of_lt (Int.pow_pos hB))
  rwa [Int.mul_one] at h2
theorem trim_len {B : Int} (hB : 0 < B) {l m : List Int} (hl : Dig B l) (hm : Dig B m) (ht : Trim m) (h : l.length < m.length) : vB B l < vB B m := by
  have h1 := vB_lt hB hl
  have h2 := trim_le hB hm ht (by omega)
  have h3 := pow_le_pow hB (show l.length ≤ m.length - 1 by omega)
  omega
theorem trim_inj {B : Int} (hB : 0 < B) {l m : List Int} (hl : Dig B l) (hm : Dig B m) (tl : Trim l) (tm : Trim m) (hv : vB B l = vB B m) : l = m := by
  rcases Nat.lt_trichotomy l.length m.length with h | h | h
  · have := trim_len hB hl hm tm h; omega
  · exact dig_inj hB hl hm h hv
  · have := trim_len hB hm hl tl h; omega
def dgs (b : Nat) (n : Nat) : List Int :=
  if h : n = 0 then [] else ((n % (b + 2) : Nat) : Int) :: dgs b (n / (b + 2))
termination_by n
decreasing_by exact Nat.div_lt_self (by omega) (by omega)
theorem dgs_zero (b : Nat) : dgs b 0 = [] := by rw [dgs]; simp
theorem dgs_pos (b n : Nat) (h : n ≠ 0) : dgs b n = ((n % (b + 2) : Nat) : Int) :: dgs b (n / (b + 2)) := by rw [dgs]; simp [h]
theorem dgs_spec (b : Nat) : ∀ n, Dig (b + 2 : Nat) (dgs b n) ∧ Trim (dgs b n) ∧ vB (b + 2 : Nat) (dgs b n) = n := by
  intro n
  induction n using Nat.strongRecOn with
  | _ n ih =>
    by_cases h : n = 0
    · subst h
      rw [dgs_zero]
      exact ⟨Dig_nil _, fun h => absurd h (by simp), rfl⟩
    · obtain ⟨h1, h2, h3⟩ := ih (n / (b + 2)) (Nat.div_lt_self (by omega) (by omega))
      rw [dgs_pos b n h]
      have hm := Nat.mod_lt n (show 0 < b + 2 by omega)
      have hd := Nat.div_add_mod n (b + 2)
      refine ⟨Dig_cons.2 ⟨⟨by omega, by omega⟩, h1⟩, ?_, ?_⟩
      · intro _
        by_cases hz : n / (b + 2) = 0
        · rw [hz, dgs_zero]
          show rd [((n % (b + 2) : Nat) : Int)] ((0 : Nat) : Int) ≠ 0
          rw [hz] at hd
          have : ((n % (b + 2) : Nat) : Int) ≠ 0 := by omega
          simpa [rd] using this
        · have hl : 0 < (dgs b (n / (b + 2))).length := by rw [dgs_pos _ _ hz]; simp
          have := h2 hl
          rw [List.length_cons, Nat.add_sub_cancel]
          obtain ⟨q, hq⟩ : ∃ q, (dgs b (n / (b + 2))).length = q + 1 := ⟨(dgs b (n / (b + 2))).length - 1, by omega⟩
          rw [hq] at this ⊢
          rw [rd_nat] at this ⊢
          simpa using this
      · rw [vB_cons, h3]
        have : ((b + 2 : Nat) : Int) * ((n / (b + 2) : Nat) : Int) + ((n % (b + 2) : Nat) : Int) = n := by exact_mod_cast hd
        omega
theorem dgs_unique {b : Nat} {l : List Int} {n : Nat} (hl : Dig (b + 2 : Nat) l) (ht : Trim l) (hv : vB (b + 2 : Nat) l = n) : l = dgs b n := by
  obtain ⟨h1, h2, h3⟩ := dgs_spec b n
  exact trim_inj (by omega) hl h1 ht h2 (by rw [hv, h3])
theorem dgs_len {b n k : Nat} (h : n < (b + 2) ^ k) : (dgs b n).length ≤ k := by
  obtain ⟨h1, h2, h3⟩ := dgs_spec b n
  rcases Nat.lt_or_ge k (dgs b n).length with hk | hk
  · have h4 := trim_le (by omega) h1 h2 (by omega)
    rw [h3] at h4
    have h5 := pow_le_pow (B := ((b + 2 : Nat) : Int)) (by omega) (show k ≤ (dgs b n).length - 1 by omega)
    have h6 : ((n : Nat) : Int) < ((b + 2 : Nat) : Int) ^ k := by exact_mod_cast h
    omega
  · exact hk
theorem dgs_lt (b n : Nat) : n < (b + 2) ^ (dgs b n).length := by
  obtain ⟨h1, h2, h3⟩ := dgs_spec b n
  have := vB_lt (by omega) h1
  rw [h3] at this
  exact_mod_cast this
end Go.Proofs.YtohkmnbnjacfaaaN
set_option linter.unusedVariables false
namespace Go.Proofs.YtohkmnbnjacfaaaN
open Go.RowKit Go.Proofs.Ytohkmnbnjacfaaa.All Go.Proofs.YtohkmnbnjacfaaaW.PrintWords Go.Proofs.YtohkmnbnjacfaaaW.PrintLast Go.Proofs.YtohkmnbnjacfaaaW.PrintMore
theorem w64 {x : Int} (h0 : -9223372036854775808 ≤ x) (h1 : x < 9223372036854775808) : wrap64 x = x := by unfold wrap64; omega
theorem u64 {x : Int} (h0 : 0 ≤ x) (h1 : x < 18446744073709551616) : IntKind.u64.wrap x = x := by
  simp [IntKind.wrap, IntKind.bits, IntKind.signed]
  omega
theorem u64_mod (x : Int) : IntKind.u64.wrap x = x % 18446744073709551616 := by simp [IntKind.wrap, IntKind.bits, IntKind.signed]
abbrev B64 : Int := 18446744073709551616
def d64 (n : Nat) : List Int := dgs 18446744073709551614 n
theorem d64_dig (n : Nat) : Dig B64 (d64 n) := (dgs_spec 18446744073709551614 n).1
theorem d64_val (n : Nat) : vB B64 (d64 n) = n := (dgs_spec 18446744073709551614 n).2.2
theorem d64_unique {l : List Int} {n : Nat} (hl : Dig B64 l) (ht : Trim l) (hv : vB B64 l = n) : l = d64 n := dgs_unique hl ht hv
theorem d64_zero : d64 0 = [] := dgs_zero _
def d8 (n : Nat) : List Int := dgs 254 n
theorem d8_dig (n : Nat) : Dig 256 (d8 n) := (dgs_spec 254 n).1
theorem d8_trim (n : Nat) : Trim (d8 n) := (dgs_spec 254 n).2.1
theorem d8_val (n : Nat) : vB 256 (d8 n) = n := (dgs_spec 254 n).2.2
theorem d8_unique {l : List Int} {n : Nat} (hl : Dig 256 l) (ht : Trim l) (hv : vB 256 l = n) : l = d8 n := dgs_unique hl ht hv
def nat (n : Nat) : ByteArray := strOfNums (d8 n).reverse
theorem bytesOf_str {l : List Int} (h : Dig 256 l) : bytesOf (strOfNums l) = l := by
  unfold bytesOf
  rw [strOfNums_data, List.map_map]
  conv => rhs; rw [← List.map_id l]
  refine List.map_congr_left fun x hx => ?_
  have := h x hx
  simp [UInt8.toNat_ofNat']
  omega
theorem str_bytesOf (s : ByteArray) : strOfNums (bytesOf s) = s := by
  unfold strOfNums bytesOf
  rw [List.map_map]
  have : List.map ((fun n : Int => UInt8.ofNat n.toNat) ∘ fun b : UInt8 => (b.toNat : Int)) s.data.toList = s.data.toList := by
    conv => rhs; rw [← List.map_id s.data.toList]
    refine List.map_congr_left fun x _ => ?_
    simp
  rw [this]
theorem bytesOf_dig (s : ByteArray) : Dig 256 (bytesOf s) := by
  intro x hx
  unfold bytesOf at hx
  obtain ⟨b, _, rfl⟩ := List.mem_map.1 hx
  have := b.toNat_lt
  omega
theorem str_ext {s t : ByteArray} (h : bytesOf s = bytesOf t) : s = t := by rw [← str_bytesOf s, h, str_bytesOf]
theorem toList_ext {s t : ByteArray} : s.toList = t.toList ↔ s = t := by
  constructor
  · intro h
    rw [ByteArray.toList_eq, ByteArray.toList_eq] at h
    cases s
    cases t
    congr
    exact Array.toList_inj.1 h
  · rintro rfl; rfl
theorem toList_nil {s : ByteArray} : s.toList = [] ↔ s.size = 0 := by
  rw [ByteArray.toList_eq, ← List.length_eq_zero_iff, data_length]
theorem nat_bytes (n : Nat) : bytesOf (nat n) = (d8 n).reverse := bytesOf_str (Dig_reverse (d8_dig n))
theorem nat_size (n : Nat) : (nat n).size = (d8 n).length := by rw [← bytesOf_length, nat_bytes, List.length_reverse]
def bval (s : ByteArray) : Int := vB 256 (bytesOf s).reverse
theorem bval_nat (n : Nat) : bval (nat n) = n := by unfold bval; rw [nat_bytes, List.reverse_reverse, d8_val]
theorem bval_nonneg (s : ByteArray) : 0 ≤ bval s := vB_nonneg (by decide) (Dig_reverse (bytesOf_dig s))
theorem nat_inj {m n : Nat} : nat m = nat n ↔ m = n := by
  constructor
  · intro h
    have := bval_nat m
    rw [h, bval_nat] at this
    omega
  · rintro rfl; rfl
theorem rd_reverse (l : List Int) (n : Nat) (h : n < l.length) : rd l.reverse (n : Int) = rd l ((l.length - 1 - n : Nat) : Int) := by
  rw [rd_get _ n (by simpa using h), rd_get _ _ (by omega), List.getElem_reverse]
theorem bt_rd (s : ByteArray) (i : Int) : bt s i = rd (bytesOf s) i := (rd_bytesOf s i).symm
theorem wf_nat {s : ByteArray} (h : s.size = 0 ∨ bt s 0 ≠ 0) : s = nat (bval s).toNat := by
  apply str_ext
  rw [nat_bytes]
  have ht : Trim (bytesOf s).reverse := by
    intro hp
    rw [List.length_reverse] at hp ⊢
    rw [rd_reverse _ _ (by omega), bt_rd] at *
    rw [bytesOf_length] at hp
    have e : (bytesOf s).length - 1 - ((bytesOf s).length - 1) = 0 := by omega
    rw [e]
    rcases h with h | h
    · omega
    · exact h
  have := d8_unique (n := (bval s).toNat) (Dig_reverse (bytesOf_dig s)) ht (by have := bval_nonneg s; unfold bval at this ⊢; omega)
  rw [← this, List.reverse_reverse]
theorem nat_wf (n : Nat) : (nat n).size = 0 ∨ bt (nat n) 0 ≠ 0 := by
  rcases Nat.eq_zero_or_pos (d8 n).length with h | h
  · left; rw [nat_size, h]
  · right
    rw [bt_rd, nat_bytes]
    have := d8_trim n h
    have e := rd_reverse (d8 n) 0 (by omega)
    rw [show (d8 n).length - 1 - 0 = (d8 n).length - 1 by omega] at e
    rw [← e] at this
    exact this
theorem nat_zero : nat 0 = ⟨#[]⟩ := by unfold nat d8; rw [dgs_zero]; rfl
theorem nat_size_zero {n : Nat} : (nat n).size = 0 ↔ n = 0 := by
  constructor
  · intro h
    rw [nat_size] at h
    have := d8_val n
    rw [List.eq_nil_of_length_eq_zero h] at this
    simp [vB] at this
    omega
  · rintro rfl; rw [nat_zero]; rfl
theorem nat_size_le {n k : Nat} : (nat n).size ≤ k ↔ n < 256 ^ k := by
  rw [nat_size]
  constructor
  · intro h
    exact Nat.lt_of_lt_of_le (dgs_lt 254 n) (Nat.pow_le_pow_right (by decide) h)
  · intro h
    exact dgs_len h
theorem nat_lt_size (n : Nat) : n < 256 ^ (nat n).size := nat_size_le.1 (Nat.le_refl _)
theorem vB_zero (B : Int) : ∀ {l : List Int}, (∀ j : Nat, j < l.length → rd l (j : Int) = 0) → vB B l = 0
  | [], _ => rfl
  | x :: xs, h => by
    have h0 : x = 0 := h 0 (by simp)
    have := vB_zero B (l := xs) (fun j hj => by
      have := h (j + 1) (by simpa using hj)
      rw [rd_nat] at this ⊢
      simpa using this)
    rw [vB_cons, h0, this]
    simp
theorem vB_low (B : Int) {l : List Int} {n : Nat} (hn : n ≤ l.length) (h : ∀ j : Nat, n ≤ j → j < l.length → rd l (j : Int) = 0) : vB B l = vB B (l.take n) := by
  rw [vB_split B l n hn, vB_zero B (l := l.drop n) (fun j hj => by rw [rd_drop]; exact h _ (by omega) (by simp at hj; omega))]
  simp
theorem trim_l0 (l : List Int) (hd : Dig B64 l) (hl : l.length < 9223372036854775808) : ∀ n : Nat, n ≤ l.length → (∀ j : Nat, n ≤ j → j < l.length → rd l (j : Int) = 0) → Ev (fun k => exact_trim.l0 k l (n : Int)) (d64 (vB B64 l).toNat) := by
  have hv := vB_nonneg (by decide) hd
  intro n
  induction n with
  | zero =>
    intro hn h
    refine Ev.step (f := fun _ => some (d64 (vB B64 l).toNat)) (fun k => ?_) (Ev.now _)
    simp only [exact_trim.l0]
    rw [if_neg (by omega), if_pos (by omega), if_pos (by omega)]
    have := vB_low B64 hn h
    rw [this]
    simp [vB, d64_zero]
  | succ n ih =>
    intro hn h
    have e1 : wrap64 (((n + 1 : Nat) : Int) - 1) = (n : Int) := by rw [w64 (by omega) (by omega)]; omega
    by_cases hz : rd l (n : Int) = 0
    · refine Ev.step (f := fun k => exact_trim.l0 k l (n : Int)) (fun k => ?_) (ih (by omega) (fun j hj hjl => ?_))
      · simp only [exact_trim.l0, e1]
        rw [if_pos (by omega), if_pos (by omega), if_pos (by omega), if_pos hz]
      · rcases Nat.lt_or_ge n j with hlt | hge
        · exact h j hlt hjl
        · have : j = n := by omega
          subst this
          exact hz
    · refine Ev.step (f := fun _ => some (d64 (vB B64 l).toNat)) (fun k => ?_) (Ev.now _)
      simp only [exact_trim.l0, e1]
      rw [if_pos (by omega), if_pos (by omega), if_pos (by omega), if_neg hz, if_pos (by omega), if_pos (by omega)]
      congr 1
      have hlen : (l.take (n + 1)).length = n + 1 := by rw [List.length_take]; omega
      refine d64_unique (Dig_take hd _) (fun _ => ?_) ?_
      · rw [Int.toNat_natCast, hlen, Nat.add_sub_cancel, rd_take l _ _ (by omega)]
        exact hz
      · rw [Int.toNat_natCast, ← vB_low B64 hn h]
        omega
theorem trim_ev {l : List Int} (hd : Dig B64 l) (hl : l.length < 9223372036854775808) : Ev (fun k => exact_trim.f k l) (d64 (vB B64 l).toNat) :=
  trim_l0 l hd hl l.length (Nat.le_refl _) (fun j h1 h2 => absurd h1 (by omega))
end Go.Proofs.YtohkmnbnjacfaaaN
set_option linter.unusedVariables false
namespace Go.Proofs.YtohkmnbnjacfaaaN
open Go.RowKit Go.Proofs.Ytohkmnbnjacfaaa.All Go.Proofs.YtohkmnbnjacfaaaW.PrintWords Go.Proofs.YtohkmnbnjacfaaaW.PrintLast Go.Proofs.YtohkmnbnjacfaaaW.PrintMore
theorem wraps_u64 (n : Int) (h0 : 0 ≤ n) (h1 : n < 2 ^ 64) : IntKind.u64.wrap n = n := u64 h0 (by simpa using h1)
theorem pow8 (q r : Nat) : (B64 : Int) ^ q * 256 ^ r = 256 ^ (8 * q + r) := by
  have e : (256 : Int) ^ 8 = B64 := rfl
  rw [Int.pow_add, Int.pow_mul, e]
theorem high_succ (s : ByteArray) (i : Nat) (h : i < s.size) : vB 256 ((bytesOf s).take (i + 1)).reverse = bt s i + 256 * vB 256 ((bytesOf s).take i).reverse := by
  rw [List.take_succ_eq_append_getElem (by rw [bytesOf_length]; exact h), List.reverse_append, bt_rd, rd_get _ i (by rw [bytesOf_length]; exact h)]
  rfl
theorem high_all (s : ByteArray) : vB 256 ((bytesOf s).take s.size).reverse = bval s := by
  rw [List.take_of_length_le (by rw [bytesOf_length]; exact Nat.le_refl _)]
  rfl
theorem word_or (x c : Int) (r : Nat) (hr : r < 8) (hx0 : 0 ≤ x) (hx1 : x < B64) (hm : x % 256 ^ (r + 1) = 0) (hc0 : 0 ≤ c) (hc1 : c ≤ 255) :
    Go.bits .or .u64 x (shl .u64 (IntKind.u64.wrap c) (8 * r : Nat)) = x + c * 256 ^ r ∧ 0 ≤ x + c * 256 ^ r ∧ x + c * 256 ^ r < B64 ∧ (x + c * 256 ^ r) % 256 ^ r = 0 := by
  have h64 : (B64 : Int) = 18446744073709551616 := rfl
  have hs : shl .u64 (IntKind.u64.wrap c) (8 * r : Nat) = c * 256 ^ r := by
    unfold shl
    rw [u64 hc0 (by omega), Int.toNat_natCast]
    have : min (8 * r) IntKind.u64.bits = 8 * r := Nat.min_eq_left (by show 8 * r ≤ 64; omega)
    rw [this, Int.pow_mul]
    have e : (2 : Int) ^ 8 = 256 := rfl
    rw [e]
    apply u64
    · exact Int.mul_nonneg hc0 (Int.le_of_lt (Int.pow_pos (by decide)))
    · have : r = 0 ∨ r = 1 ∨ r = 2 ∨ r = 3 ∨ r = 4 ∨ r = 5 ∨ r = 6 ∨ r = 7 := by omega
      rcases this with rfl | rfl | rfl | rfl | rfl | rfl | rfl | rfl <;> omega
  rw [hs]
  have hb : 0 ≤ c * 256 ^ r ∧ c * 256 ^ r < 256 ^ (r + 1) ∧ 0 ≤ x + c * 256 ^ r ∧ x + c * 256 ^ r < B64 ∧ (x + c * 256 ^ r) % 256 ^ r = 0 ∧ c * 256 ^ r < 2 ^ 64 := by
    have : r = 0 ∨ r = 1 ∨ r = 2 ∨ r = 3 ∨ r = 4 ∨ r = 5 ∨ r = 6 ∨ r = 7 := by omega
    rcases this with rfl | rfl | rfl | rfl | rfl | rfl | rfl | rfl <;> (clear hs; simp only [B64] at hx1 ⊢; omega)
  refine ⟨?_, hb.2.2.1, hb.2.2.2.1, hb.2.2.2.2.1⟩
  have hp : (2 : Int) ^ (8 * (r + 1)) = 256 ^ (r + 1) := by rw [Int.pow_mul]; rfl
  exact bits_join .u64 64 (by decide) wraps_u64 (8 * (r + 1)) x (c * 256 ^ r) hx0 (by rw [hp]; exact hm) (by rw [h64] at hx1; simpa using hx1) hb.1 (by rw [hp]; exact hb.2.1) hb.2.2.2.2.2
theorem words_l0 (s : ByteArray) (hs : s.size ≤ 1099511627776) : ∀ (d i : Nat) (w : List Int), i + d = s.size → w.length = (s.size + 7) / 8 → Dig B64 w → vB B64 w = vB 256 ((bytesOf s).take i).reverse * 256 ^ d →
    (0 < d → rd w ((d - 1) / 8 : Nat) % 256 ^ ((d - 1) % 8 + 1) = 0 ∧ ∀ q : Nat, q < (d - 1) / 8 → rd w (q : Int) = 0) → Ev (fun k => exact_words.l0 k s w (s.size : Int) (i : Int)) (d64 (bval s).toNat) := by
  intro d
  induction d with
  | zero =>
    intro i w hi hl hd hv _
    have hi : i = s.size := by omega
    subst hi
    have hv' : vB B64 w = bval s := by rw [hv, high_all]; simp
    refine Ev.step (f := fun k => (exact_trim.f k w).bind fun t => some t) (fun k => ?_) (Ev.bind (trim_ev hd (by omega)) ?_)
    · simp only [exact_words.l0]
      rw [if_neg (by omega)]
    · rw [hv']
      exact Ev.now _
  | succ d ih =>
    intro i w hi hl hd hv hz
    obtain ⟨hz1, hz2⟩ := hz (by omega)
    rw [Nat.add_sub_cancel] at hz1 hz2
    have hq : d / 8 < w.length := by omega
    have hr : d % 8 < 8 := Nat.mod_lt _ (by decide)
    have e1 : wrap64 (Int.tdiv (wrap64 (wrap64 ((s.size : Int) - 1) - (i : Int))) 8) = ((d / 8 : Nat) : Int) := by
      rw [w64 (x := (s.size : Int) - 1) (by omega) (by omega), w64 (x := (s.size : Int) - 1 - (i : Int)) (by omega) (by omega)]
      have : (s.size : Int) - 1 - (i : Int) = (d : Int) := by omega
      rw [this, Int.tdiv_eq_ediv_of_nonneg (by omega), w64 (by omega) (by omega)]
      omega
    have e2 : wrap64 (8 * Int.tmod (wrap64 (wrap64 ((s.size : Int) - 1) - (i : Int))) 8) = ((8 * (d % 8) : Nat) : Int) := by
      rw [w64 (x := (s.size : Int) - 1) (by omega) (by omega), w64 (x := (s.size : Int) - 1 - (i : Int)) (by omega) (by omega)]
      have : (s.size : Int) - 1 - (i : Int) = (d : Int) := by omega
      rw [this, Int.tmod_eq_emod_of_nonneg (by omega), w64 (by omega) (by omega)]
      omega
    have e3 : wrap64 ((i : Int) + 1) = ((i + 1 : Nat) : Int) := by rw [w64 (by omega) (by omega)]; omega
    have c1 : (i : Int) < (s.size : Int) := by omega
    have c3 : ((d / 8 : Nat) : Int) < (w.length : Int) := Int.ofNat_lt.2 hq
    have c4 : 0 < (d / 8 : Nat) → d % 8 = 0 → (d - 1) / 8 = d / 8 - 1 := by omega
    have hi' : i + 1 + d = s.size := by omega
    obtain ⟨hx0, hx1⟩ := Dig_rd hd (d / 8) hq
    obtain ⟨hc0, hc1⟩ := bt_range s (i : Int)
    obtain ⟨ho, ho0, ho1, ho2⟩ := word_or (rd w ((d / 8 : Nat) : Int)) (bt s (i : Int)) (d % 8) hr hx0 hx1 hz1 hc0 hc1
    have hk : 8 * (d / 8) + d % 8 = d := Nat.div_add_mod d 8
    refine Ev.step (f := fun k => exact_words.l0 k s (w.set (d / 8) (rd w ((d / 8 : Nat) : Int) + bt s (i : Int) * 256 ^ (d % 8))) (s.size : Int) ((i + 1 : Nat) : Int)) (fun k => ?_) (ih (i + 1) _ hi' (by rw [List.length_set]; exact hl) (Dig_set hd _ ho0 ho1) ?_ ?_)
    · simp only [exact_words.l0, e1, e2, e3]
      rw [if_pos c1, if_pos (Int.natCast_nonneg _), if_pos c3, if_pos (Int.natCast_nonneg _), if_pos c1, if_pos (Int.natCast_nonneg _), ho, Int.toNat_natCast]
    · rw [vB_set _ _ _ _ hq, hv, high_succ s i (by omega)]
      have e : rd w ((d / 8 : Nat) : Int) + bt s (i : Int) * 256 ^ (d % 8) - rd w ((d / 8 : Nat) : Int) = 256 ^ (d % 8) * bt s (i : Int) := by
        rw [Int.mul_comm (256 ^ (d % 8))]; omega
      rw [e, ← Int.mul_assoc, pow8, hk, Int.pow_succ, Int.add_mul]
      generalize vB 256 ((bytesOf s).take i).reverse = H
      generalize (256 : Int) ^ d = P
      generalize bt s (i : Int) = c
      rw [Int.mul_comm P c, Int.add_comm, Int.mul_assoc 256 H P, Int.mul_comm P 256, ← Int.mul_assoc H 256 P, Int.mul_comm H 256, Int.mul_assoc 256 H P]
    · intro hd0
      by_cases h0 : d % 8 = 0
      · have h1 : (d - 1) / 8 = d / 8 - 1 := by omega
        have h2 : 0 < d / 8 := by omega
        rw [h1]
        refine ⟨?_, fun q hq' => ?_⟩
        · rw [rd_set_ne _ _ _ _ (by omega), hz2 _ (by omega)]
          simp
        · rw [rd_set_ne _ _ _ _ (by omega), hz2 _ (by omega)]
      · have h1 : (d - 1) / 8 = d / 8 := by omega
        have h2 : (d - 1) % 8 + 1 = d % 8 := by omega
        rw [h1, h2]
        refine ⟨?_, fun q hq' => ?_⟩
        · rw [rd_set_self _ _ _ hq]
          exact ho2
        · rw [rd_set_ne _ _ _ _ (by omega), hz2 _ (by omega)]
theorem words_ev (s : ByteArray) (hs : s.size ≤ 1099511627776) : Ev (fun k => exact_words.f k s) (d64 (bval s).toNat) := by
  have e1 : wrap64 (Int.tdiv (wrap64 ((s.size : Int) + 7)) 8) = (((s.size + 7) / 8 : Nat) : Int) := by
    rw [w64 (x := (s.size : Int) + 7) (by omega) (by omega), Int.tdiv_eq_ediv_of_nonneg (by omega), w64 (by omega) (by omega)]
    omega
  refine Ev.congr (f := fun k => exact_words.l0 k s (List.replicate ((s.size + 7) / 8) 0) (s.size : Int) ((0 : Nat) : Int)) (fun k => ?_) (words_l0 s hs s.size 0 _ (by omega) (by simp) (Dig_replicate (by decide) _) ?_ ?_)
  · unfold exact_words.f
    rw [e1, if_pos (by omega), Int.toNat_natCast, if_pos (by omega)]
    rfl
  · rw [vB_replicate]
    simp [vB]
  · intro _
    exact ⟨by rw [rd_replicate]; simp, fun q _ => rd_replicate _ _⟩
theorem words_nat {n : Nat} (hs : (nat n).size ≤ 1099511627776) : Ev (fun k => exact_words.f k (nat n)) (d64 n) := by
  have := words_ev (nat n) hs
  rwa [bval_nat, Int.toNat_natCast] at this
theorem set_reverse (l : List Int) (p : Nat) (v : Int) (h : p < l.length) : (l.set p v).reverse = l.reverse.set (l.length - 1 - p) v := by
  apply List.ext_getElem?
  intro j
  rcases Nat.lt_or_ge j l.length with hj | hj
  · rw [List.getElem?_reverse (by rw [List.length_set]; exact hj), List.length_set, List.getElem?_set, List.getElem?_set, List.length_reverse]
    by_cases e : p = l.length - 1 - j
    · have e' : l.length - 1 - p = j := by omega
      rw [if_pos e, if_pos h, if_pos e', if_pos (by omega)]
    · have e' : ¬ l.length - 1 - p = j := by omega
      rw [if_neg e, if_neg e', List.getElem?_reverse hj]
  · rw [List.getElem?_eq_none (by simp; omega), List.getElem?_eq_none (by simp; omega)]
theorem pack_l2 (b : List Int) (hd : Dig 256 b) (hb : b.length < 9223372036854775807) (n : Nat) (hv : vB 256 b.reverse = n) (hn : n ≠ 0) : ∀ (d i : Nat), i + d = b.length → (∀ j : Nat, j < i → rd b (j : Int) = 0) → Ev (fun k => exact_pack.l2 k b (i : Int)) (nat n) := by
  intro d
  induction d with
  | zero =>
    intro i hi hz
    have := vB_zero 256 (l := b.reverse) (fun j hj => by
      rw [List.length_reverse] at hj
      rw [rd_reverse _ _ hj]
      exact hz _ (by omega))
    omega
  | succ d ih =>
    intro i hi hz
    by_cases h0 : rd b (i : Int) = 0
    · have e1 : wrap64 ((i : Int) + 1) = ((i + 1 : Nat) : Int) := by rw [w64 (by omega) (by omega)]; omega
      refine Ev.step (f := fun k => exact_pack.l2 k b ((i + 1 : Nat) : Int)) (fun k => ?_) (ih (i + 1) (by omega) (fun j hj => ?_))
      · simp only [exact_pack.l2, e1]
        rw [if_pos (by omega), if_pos (by omega), if_pos h0]
      · rcases Nat.lt_or_ge j i with h | h
        · exact hz j h
        · have : j = i := by omega
          subst this
          exact h0
    · refine Ev.step (f := fun _ => some (nat n)) (fun k => ?_) (Ev.now _)
      simp only [exact_pack.l2]
      rw [if_pos (by omega), if_pos (by omega), if_neg h0, if_pos (by omega), Int.toNat_natCast]
      congr 1
      unfold nat
      congr 1
      have hu : (b.drop i).reverse = d8 n := by
        refine d8_unique (Dig_reverse (Dig_drop hd _)) (fun hp => ?_) ?_
        · rw [List.length_reverse] at hp ⊢
          rw [rd_reverse _ _ (by omega), rd_drop]
          have : i + ((b.drop i).length - 1 - ((b.drop i).length - 1)) = i := by omega
          rw [this]
          exact h0
        · rw [← hv]
          conv => rhs; rw [← List.take_append_drop i b]
          rw [List.reverse_append, vB_append, vB_zero 256 (l := (b.take i).reverse) (fun j hj => ?_)]
          · simp
          · rw [List.length_reverse] at hj
            have hl : (b.take i).length = i := by rw [List.length_take]; omega
            rw [rd_reverse _ _ hj, rd_take _ _ _ (by omega)]
            exact hz _ (by omega)
      rw [← hu, List.reverse_reverse]
theorem byte_of (x : Int) (s : Nat) (hs : s < 8) (h0 : 0 ≤ x) (h1 : x < B64) : shr .u64 x ((8 * s : Nat) : Int) % 256 = x / 256 ^ s % 256 := by
  unfold shr
  rw [Int.toNat_natCast]
  have : min (8 * s) IntKind.u64.bits = 8 * s := Nat.min_eq_left (by show 8 * s ≤ 64; omega)
  rw [this, Int.pow_mul]
  rfl
theorem byte_step (x : Int) (s : Nat) (hs : s < 8) (h0 : 0 ≤ x) (h1 : x < B64) : x % 256 ^ (s + 1) = x % 256 ^ s + 256 ^ s * (x / 256 ^ s % 256) := by
  have : s = 0 ∨ s = 1 ∨ s = 2 ∨ s = 3 ∨ s = 4 ∨ s = 5 ∨ s = 6 ∨ s = 7 := by omega
  rcases this with rfl | rfl | rfl | rfl | rfl | rfl | rfl | rfl <;> simp <;> omega
def Packed (w b : List Int) (i s : Nat) : Prop :=
  b.length = 8 * w.length ∧ Dig 256 b ∧ vB 256 b.reverse = vB B64 (w.take i) + B64 ^ i * (rd w (i : Int) % 256 ^ s) ∧ ∀ j : Nat, 8 * i + s ≤ j → rd b.reverse (j : Int) = 0
theorem packed_step {w b : List Int} {i s : Nat} (hw : Dig B64 w) (hi : i < w.length) (hs : s < 8) (h : Packed w b i s) :
    8 * i + s < b.length ∧ Packed w (b.set (b.length - 1 - (8 * i + s)) (rd w (i : Int) / 256 ^ s % 256)) i (s + 1) := by
  obtain ⟨hl, hd, hv, hz⟩ := h
  obtain ⟨hx0, hx1⟩ := Dig_rd hw i hi
  have hlt : 8 * i + s < b.length := by omega
  refine ⟨hlt, by rw [List.length_set]; exact hl, Dig_set hd _ (Int.emod_nonneg _ (by decide)) (Int.emod_lt_of_pos _ (by decide)), ?_, fun j hj => ?_⟩
  · rw [set_reverse _ _ _ (by omega)]
    have e : b.length - 1 - (b.length - 1 - (8 * i + s)) = 8 * i + s := by omega
    rw [e, vB_set _ _ _ _ (by rw [List.length_reverse]; exact hlt), hz _ (Nat.le_refl _), hv, byte_step _ s hs hx0 hx1, Int.sub_zero, Int.mul_add, ← pow8, Int.mul_assoc, Int.add_assoc]
  · rw [set_reverse _ _ _ (by omega)]
    have e : b.length - 1 - (b.length - 1 - (8 * i + s)) = 8 * i + s := by omega
    rw [e, rd_set_ne _ _ _ _ (by omega)]
    exact hz j (by omega)
theorem packed_word {w b : List Int} {i : Nat} (hw : Dig B64 w) (hi : i < w.length) (h : Packed w b i 8) : Packed w b (i + 1) 0 := by
  obtain ⟨hl, hd, hv, hz⟩ := h
  obtain ⟨hx0, hx1⟩ := Dig_rd hw i hi
  refine ⟨hl, hd, ?_, fun j hj => hz j (by omega)⟩
  rw [hv, vB_take_succ _ _ _ hi]
  have : rd w (i : Int) % 256 ^ 8 = rd w (i : Int) := Int.emod_eq_of_lt hx0 hx1
  rw [this]
  simp
theorem pack_l1 (w : List Int) (hw : Dig B64 w) (hl : w.length ≤ 1099511627776) (i : Nat) (hi : i < w.length) (r : ByteArray)
    (next : ∀ b, Packed w b (i + 1) 0 → Ev (fun k => exact_pack.l0 k b w (w.length : Int) ((i + 1 : Nat) : Int)) r) : ∀ (d s : Nat) (b : List Int), s + d = 8 → Packed w b i s →
    Ev (fun k => exact_pack.l1 k b (i : Int) (rd w (i : Int)) w (w.length : Int) (i : Int) (s : Int)) r := by
  obtain ⟨hx0, hx1⟩ := Dig_rd hw i hi
  intro d
  induction d with
  | zero =>
    intro s b hs hp
    have hs : s = 8 := by omega
    subst hs
    refine Ev.step (f := fun k => exact_pack.l0 k b w (w.length : Int) ((i + 1 : Nat) : Int)) (fun k => ?_) (next b (packed_word hw hi hp))
    have c1 : ¬ ((8 : Nat) : Int) < 8 := by omega
    have e1 : wrap64 ((i : Int) + 1) = ((i + 1 : Nat) : Int) := by rw [w64 (by omega) (by omega)]; omega
    simp only [exact_pack.l1, e1]
    rw [if_neg c1]
  | succ d ih =>
    intro s b hs hp
    have hlb := hp.1
    obtain ⟨hlt, hp'⟩ := packed_step hw hi (by omega) hp
    refine Ev.step (f := fun k => exact_pack.l1 k (b.set (b.length - 1 - (8 * i + s)) (rd w (i : Int) / 256 ^ s % 256)) (i : Int) (rd w (i : Int)) w (w.length : Int) (i : Int) ((s + 1 : Nat) : Int)) (fun k => ?_) (ih (s + 1) _ (by omega) hp')
    have c1 : ((s : Nat) : Int) < 8 := by omega
    have c2 : ((b.length - 1 - (8 * i + s) : Nat) : Int) < (b.length : Int) := by omega
    have e0 := byte_of _ s (by omega) hx0 hx1
    have e1 : wrap64 (8 * (s : Int)) = ((8 * s : Nat) : Int) := by rw [w64 (by omega) (by omega)]; omega
    have e2 : wrap64 (wrap64 (wrap64 ((b.length : Int) - 1) - ((8 * i : Nat) : Int)) - (s : Int)) = ((b.length - 1 - (8 * i + s) : Nat) : Int) := by
      clear e1 e0
      rw [w64 (x := (b.length : Int) - 1) (by omega) (by omega), w64 (x := (b.length : Int) - 1 - ((8 * i : Nat) : Int)) (by omega) (by omega), w64 (by omega) (by omega)]
      omega
    have e4 : wrap64 (8 * (i : Int)) = ((8 * i : Nat) : Int) := by clear e0 e1 e2; rw [w64 (by omega) (by omega)]; omega
    have e3 : wrap64 ((s : Int) + 1) = ((s + 1 : Nat) : Int) := by clear e0 e1 e2 e4; rw [w64 (by omega) (by omega)]; omega
    simp only [exact_pack.l1, e1, e4, e2, e3]
    rw [if_pos c1, if_pos (Int.natCast_nonneg _), if_pos (Int.natCast_nonneg _), if_pos c2, Int.toNat_natCast, e0]
theorem pack_l0 (w : List Int) (hw : Dig B64 w) (hl : w.length ≤ 1099511627776) (n : Nat) (hv : vB B64 w = n) (hn : n ≠ 0) : ∀ (d i : Nat) (b : List Int), i + d = w.length → Packed w b i 0 → Ev (fun k => exact_pack.l0 k b w (w.length : Int) (i : Int)) (nat n) := by
  intro d
  induction d with
  | zero =>
    intro i b hi hp
    obtain ⟨h1, h2, h3, h4⟩ := hp
    have hi : i = w.length := by omega
    subst hi
    have e : vB 256 b.reverse = n := by
      rw [h3, List.take_of_length_le (Nat.le_refl _), hv]
      simp
    refine Ev.step (f := fun k => exact_pack.l2 k b ((0 : Nat) : Int)) (fun k => ?_) (pack_l2 b h2 (by omega) n e hn b.length 0 (by omega) (fun j hj => absurd hj (by omega)))
    simp only [exact_pack.l0]
    rw [if_neg (by omega)]
    rfl
  | succ d ih =>
    intro i b hi hp
    refine Ev.step (f := fun k => exact_pack.l1 k b (i : Int) (rd w (i : Int)) w (w.length : Int) (i : Int) ((0 : Nat) : Int)) (fun k => ?_) (pack_l1 w hw hl i (by omega) (nat n) (fun b' hp' => ih (i + 1) b' (by omega) hp') 8 0 b (by omega) hp)
    simp only [exact_pack.l0]
    rw [if_pos (by omega), if_pos (by omega), if_pos (by omega)]
    rfl
theorem pack_ev {l : List Int} (hd : Dig B64 l) (hl : l.length ≤ 1099511627776) : Ev (fun k => exact_pack.f k l) (nat (vB B64 l).toNat) := by
  have hv := vB_nonneg (by decide) hd
  have ht : (d64 (vB B64 l).toNat).length ≤ l.length := dgs_len (by
    have := vB_lt (by decide) hd
    have h1 : (((vB B64 l).toNat : Nat) : Int) < ((18446744073709551614 + 2 : Nat) : Int) ^ l.length := by
      rw [Int.toNat_of_nonneg hv]
      exact this
    exact_mod_cast h1)
  refine Ev.congr (f := fun k => (exact_trim.f k l).bind fun t => if (t.length : Int) = 0 then some (⟨#[]⟩ : ByteArray) else if 0 ≤ wrap64 (8 * (t.length : Int)) then (if (wrap64 (8 * (t.length : Int)) : Int).toNat ≤ 281474976710656 then exact_pack.l0 k (List.replicate (wrap64 (8 * (t.length : Int)) : Int).toNat 0) t (t.length : Int) 0 else none) else none) (fun k => rfl) (Ev.bind (trim_ev hd (by omega)) ?_)
  generalize hn : (vB B64 l).toNat = n at *
  by_cases h0 : n = 0
  · subst h0
    rw [d64_zero, nat_zero]
    exact Ev.now _
  · have hne : (d64 n).length ≠ 0 := by
      intro h
      have := d64_val n
      rw [List.eq_nil_of_length_eq_zero h] at this
      simp [vB] at this
      omega
    have e1 : wrap64 (8 * ((d64 n).length : Int)) = ((8 * (d64 n).length : Nat) : Int) := by rw [w64 (by omega) (by omega)]; omega
    refine Ev.congr (f := fun k => exact_pack.l0 k (List.replicate (8 * (d64 n).length) 0) (d64 n) ((d64 n).length : Int) ((0 : Nat) : Int)) (fun k => ?_) (pack_l0 (d64 n) (d64_dig n) (by omega) n (d64_val n) h0 (d64 n).length 0 _ (by omega) ⟨by simp, Dig_replicate (by decide) _, ?_, fun j _ => ?_⟩)
    · rw [e1, if_neg (by omega), if_pos (by omega), Int.toNat_natCast, if_pos (by omega)]
      rfl
    · rw [List.reverse_replicate, vB_replicate]
      simp [vB]
    · rw [List.reverse_replicate, rd_replicate]
end Go.Proofs.YtohkmnbnjacfaaaN
set_option linter.unusedVariables false
namespace Go.Proofs.YtohkmnbnjacfaaaN
open Go.RowKit Go.Proofs.Ytohkmnbnjacfaaa.All Go.Proofs.YtohkmnbnjacfaaaW.PrintWords Go.Proofs.YtohkmnbnjacfaaaW.PrintLast Go.Proofs.YtohkmnbnjacfaaaW.PrintMore
theorem mul_range {a b A B : Int} (a0 : 0 ≤ a) (a1 : a ≤ A) (b0 : 0 ≤ b) (b1 : b ≤ B) : 0 ≤ a * b ∧ a * b ≤ A * B :=
  ⟨Int.mul_nonneg a0 b0, Int.le_trans (Int.mul_le_mul_of_nonneg_left b1 a0) (Int.mul_le_mul_of_nonneg_right a1 (by omega))⟩
theorem and_low {x : Int} (h0 : 0 ≤ x) (h1 : x < B64) : Go.bits .and .u64 x 4294967295 = x % 4294967296 :=
  bits_mask .u64 64 (by decide) wraps_u64 32 (by decide) x h0 (by simpa using h1)
theorem mul64_eq {x y : Int} (x0 : 0 ≤ x) (x1 : x < B64) (y0 : 0 ≤ y) (y1 : y < B64) : bits_Mul64.f x y = some (x * y / B64, x * y % B64) := by
  have x1' : x < 18446744073709551616 := x1
  have y1' : y < 18446744073709551616 := y1
  show bits_Mul64.f x y = some (x * y / 18446744073709551616, x * y % 18446744073709551616)
  obtain ⟨a, ha⟩ : ∃ a, a = x / 4294967296 := ⟨_, rfl⟩
  obtain ⟨b, hb⟩ : ∃ b, b = x % 4294967296 := ⟨_, rfl⟩
  obtain ⟨c, hc⟩ : ∃ c, c = y / 4294967296 := ⟨_, rfl⟩
  obtain ⟨d, hd⟩ : ∃ d, d = y % 4294967296 := ⟨_, rfl⟩
  have hx : x = a * 4294967296 + b := by omega
  have hy : y = c * 4294967296 + d := by omega
  have a0 : 0 ≤ a ∧ a ≤ 4294967295 := by omega
  have b0 : 0 ≤ b ∧ b ≤ 4294967295 := by omega
  have c0 : 0 ≤ c ∧ c ≤ 4294967295 := by omega
  have d0 : 0 ≤ d ∧ d ≤ 4294967295 := by omega
  have hac := mul_range a0.1 a0.2 c0.1 c0.2
  have had := mul_range a0.1 a0.2 d0.1 d0.2
  have hbc := mul_range b0.1 b0.2 c0.1 c0.2
  have hbd := mul_range b0.1 b0.2 d0.1 d0.2
  have hp : x * y = a * c * 18446744073709551616 + (a * d + b * c) * 4294967296 + b * d := by
    rw [hx, hy, Int.add_mul, Int.mul_add, Int.mul_add, Int.add_mul]
    have e1 : a * 4294967296 * (c * 4294967296) = a * c * 18446744073709551616 := by
      rw [Int.mul_assoc, Int.mul_left_comm 4294967296 c, Int.mul_assoc a c]
      congr 1
    have e2 : a * 4294967296 * d = a * d * 4294967296 := by rw [Int.mul_assoc, Int.mul_comm 4294967296 d, ← Int.mul_assoc]
    have e3 : b * (c * 4294967296) = b * c * 4294967296 := by rw [Int.mul_assoc]
    rw [e1, e2, e3]
    omega
  unfold bits_Mul64.f
  rw [and_low x0 x1, and_low y0 y1, ← ha, ← hb, ← hc, ← hd, hp]
  generalize hA : a * c = p at *
  generalize hD : a * d = q at *
  generalize hC : b * c = r at *
  generalize hE : b * d = s at *
  clear hA hD hC hE hp hx hy ha hb hc hd x0 x1 y0 y1 x1' y1'
  have h1 : (4294967295 : Int) * 4294967295 = 18446744065119617025 := rfl
  rw [h1] at *
  rw [u64 (x := s) (by omega) (by omega), u64 (x := q) (by omega) (by omega), u64 (x := q + s / 4294967296) (by omega) (by omega), and_low (x := q + s / 4294967296) (by omega) (by show _ < (18446744073709551616 : Int); omega),
    u64 (x := r) (by omega) (by omega), u64 (x := (q + s / 4294967296) % 4294967296 + r) (by omega) (by omega), u64 (x := p) (by omega) (by omega),
    u64 (x := p + (q + s / 4294967296) / 4294967296) (by omega) (by omega)]
  have e : p + (q + s / 4294967296) / 4294967296 + ((q + s / 4294967296) % 4294967296 + r) / 4294967296 = (p * 18446744073709551616 + (q + r) * 4294967296 + s) / 18446744073709551616 := by omega
  rw [e, u64 (x := (p * 18446744073709551616 + (q + r) * 4294967296 + s) / 18446744073709551616) (by clear e; omega) (by clear e; omega), u64_mod]
theorem add64_eq {x y c : Int} (x0 : 0 ≤ x) (y0 : 0 ≤ y) (c0 : 0 ≤ c) (c1 : c ≤ 1) : bits_Add64.f x y c = some ((x + y + c) % B64, (x + y + c) / B64) := by
  unfold bits_Add64.f
  rw [if_pos ⟨x0, y0, c0, c1⟩]
theorem mul_add {x y o c : Int} (x0 : 0 ≤ x) (x1 : x < B64) (y0 : 0 ≤ y) (y1 : y < B64) (o0 : 0 ≤ o) (o1 : o < B64) (c0 : 0 ≤ c) (c1 : c < B64) :
    IntKind.u64.wrap (IntKind.u64.wrap (x * y / B64 + (x * y % B64 + o + 0) / B64) + ((x * y % B64 + o + 0) % B64 + c + 0) / B64) = (x * y + o + c) / B64 ∧ ((x * y % B64 + o + 0) % B64 + c + 0) % B64 = (x * y + o + c) % B64 ∧ 0 ≤ (x * y + o + c) / B64 ∧ (x * y + o + c) / B64 < B64 := by
  have x1' : x < 18446744073709551616 := x1
  have y1' : y < 18446744073709551616 := y1
  have o1' : o < 18446744073709551616 := o1
  have c1' : c < 18446744073709551616 := c1
  have hp := mul_range x0 (show x ≤ 18446744073709551615 by omega) y0 (show y ≤ 18446744073709551615 by omega)
  have h1 : (18446744073709551615 : Int) * 18446744073709551615 = 340282366920938463426481119284349108225 := rfl
  rw [h1] at hp
  show IntKind.u64.wrap (IntKind.u64.wrap (x * y / 18446744073709551616 + (x * y % 18446744073709551616 + o + 0) / 18446744073709551616) + ((x * y % 18446744073709551616 + o + 0) % 18446744073709551616 + c + 0) / 18446744073709551616) = (x * y + o + c) / 18446744073709551616 ∧ ((x * y % 18446744073709551616 + o + 0) % 18446744073709551616 + c + 0) % 18446744073709551616 = (x * y + o + c) % 18446744073709551616 ∧ 0 ≤ (x * y + o + c) / 18446744073709551616 ∧ (x * y + o + c) / 18446744073709551616 < 18446744073709551616
  generalize x * y = p at *
  clear x0 x1 x1' y0 y1 y1' o1 c1 h1
  have a1 : 0 ≤ p / 18446744073709551616 + (p % 18446744073709551616 + o + 0) / 18446744073709551616 ∧ p / 18446744073709551616 + (p % 18446744073709551616 + o + 0) / 18446744073709551616 < 18446744073709551616 := by omega
  rw [u64 a1.1 a1.2]
  have a2 : p / 18446744073709551616 + (p % 18446744073709551616 + o + 0) / 18446744073709551616 + ((p % 18446744073709551616 + o + 0) % 18446744073709551616 + c + 0) / 18446744073709551616 = (p + o + c) / 18446744073709551616 := by omega
  have a3 : 0 ≤ (p + o + c) / 18446744073709551616 ∧ (p + o + c) / 18446744073709551616 < 18446744073709551616 := by omega
  rw [a2, u64 a3.1 a3.2]
  refine ⟨rfl, by omega, a3.1, a3.2⟩
theorem take_succ (B : Int) (l : List Int) (i : Nat) : vB B (l.take (i + 1)) = vB B (l.take i) + B ^ i * rd l (i : Int) := by
  rcases Nat.lt_or_ge i l.length with h | h
  · exact vB_take_succ B l i h
  · rw [List.take_of_length_le (by omega), List.take_of_length_le h, rd_nat, List.getD_eq_getElem?_getD, List.getElem?_eq_none h]
    simp
theorem rd_far (l : List Int) (i : Nat) (h : l.length ≤ i) : rd l (i : Int) = 0 := by
  rw [rd_nat, List.getD_eq_getElem?_getD, List.getElem?_eq_none h]
  rfl
theorem vB_all (B : Int) (l : List Int) (i : Nat) (h : l.length ≤ i) : vB B (l.take i) = vB B l := by rw [List.take_of_length_le h]
def MulOut (a b out : List Int) (i : Nat) : Prop :=
  out.length = a.length + b.length ∧ Dig B64 out ∧ vB B64 out = vB B64 (a.take i) * vB B64 b ∧ ∀ j : Nat, i + b.length ≤ j → rd out (j : Int) = 0
def MulIn (a b out : List Int) (i j : Nat) (c : Int) : Prop :=
  out.length = a.length + b.length ∧ Dig B64 out ∧ (0 ≤ c ∧ c < B64) ∧ vB B64 out + B64 ^ (i + j) * c = vB B64 (a.take i) * vB B64 b + B64 ^ i * (rd a (i : Int) * vB B64 (b.take j)) ∧ ∀ n : Nat, i + b.length ≤ n → rd out (n : Int) = 0
theorem mul_in {a b out : List Int} {i j : Nat} {c : Int} (ha : Dig B64 a) (hb : Dig B64 b) (hi : i < a.length) (hj : j < b.length) (h : MulIn a b out i j c) :
    MulIn a b (out.set (i + j) ((rd a (i : Int) * rd b (j : Int) + rd out ((i + j : Nat) : Int) + c) % B64)) i (j + 1) ((rd a (i : Int) * rd b (j : Int) + rd out ((i + j : Nat) : Int) + c) / B64) := by
  obtain ⟨hl, hd, hc, hv, hz⟩ := h
  obtain ⟨x0, x1⟩ := Dig_rd ha i hi
  obtain ⟨y0, y1⟩ := Dig_rd hb j hj
  obtain ⟨o0, o1⟩ := Dig_rd hd (i + j) (by omega)
  obtain ⟨-, -, n0, n1⟩ := mul_add x0 x1 y0 y1 o0 o1 hc.1 hc.2
  refine ⟨by rw [List.length_set]; exact hl, Dig_set hd _ (Int.emod_nonneg _ (by decide)) (Int.emod_lt_of_pos _ (by decide)), ⟨n0, n1⟩, ?_, fun n hn => ?_⟩
  · rw [vB_set _ _ _ _ (by omega), take_succ, ← Nat.add_assoc, Int.pow_succ]
    have e := Int.emod_add_mul_ediv (rd a (i : Int) * rd b (j : Int) + rd out ((i + j : Nat) : Int) + c) B64
    generalize (rd a (i : Int) * rd b (j : Int) + rd out ((i + j : Nat) : Int) + c) / B64 = q at *
    generalize (rd a (i : Int) * rd b (j : Int) + rd out ((i + j : Nat) : Int) + c) % B64 = r at *
    have er : r = rd a (i : Int) * rd b (j : Int) + rd out ((i + j : Nat) : Int) + c - B64 * q := by omega
    rw [er]
    have ep : (B64 : Int) ^ (i + j) = B64 ^ i * B64 ^ j := Int.pow_add _ _ _
    rw [ep] at hv ⊢
    clear ep
    generalize vB B64 out = V at *
    generalize vB B64 (List.take i a) * vB B64 b = W at *
    generalize vB B64 (List.take j b) = U at *
    generalize (B64 : Int) ^ i = P at *
    generalize (B64 : Int) ^ j = Q at *
    generalize rd a (i : Int) = x at *
    generalize rd b (j : Int) = y at *
    generalize rd out ((i + j : Nat) : Int) = o at *
    have e1 : P * Q * (x * y + o + c - B64 * q - o) = P * Q * (x * y) + P * Q * c - P * Q * B64 * q := by
      rw [show x * y + o + c - B64 * q - o = x * y + c - B64 * q by omega, Int.mul_sub, Int.mul_add, Int.mul_assoc (P * Q) B64 q]
    have e2 : P * (x * (U + Q * y)) = P * (x * U) + P * Q * (x * y) := by
      rw [Int.mul_add x, Int.mul_add P, Int.mul_left_comm x Q y, Int.mul_assoc P Q]
    rw [e1, e2]
    omega
  · rw [rd_set_ne _ _ _ _ (by omega)]
    exact hz n hn
theorem mulWords_l1 (a b : List Int) (ha : Dig B64 a) (hb : Dig B64 b) (la : a.length ≤ 1099511627776) (lb : b.length ≤ 1099511627776) (i : Nat) (hi : i < a.length) (r : List Int)
    (next : ∀ out, MulOut a b out (i + 1) → Ev (fun k => exact_mulWords.l0 k b out a (a.length : Int) ((i + 1 : Nat) : Int)) r) : ∀ (d j : Nat) (out : List Int) (c : Int), j + d = b.length → MulIn a b out i j c →
    Ev (fun k => exact_mulWords.l1 k b out (i : Int) (rd a (i : Int)) c a (a.length : Int) (i : Int) b (b.length : Int) (j : Int)) r := by
  intro d
  induction d with
  | zero =>
    intro j out c hj h
    have hj : j = b.length := by omega
    subst hj
    have hl := h.1
    have c1 : i + b.length < out.length := by omega
    have c2 : ((i + b.length : Nat) : Int) < (out.length : Int) := Int.ofNat_lt.2 c1
    have e1 : wrap64 ((i : Int) + (b.length : Int)) = ((i + b.length : Nat) : Int) := by rw [w64 (by omega) (by omega)]; omega
    have e2 : wrap64 ((i : Int) + 1) = ((i + 1 : Nat) : Int) := by clear e1; rw [w64 (by omega) (by omega)]; omega
    obtain ⟨-, hd, hc, hv, hz⟩ := h
    refine Ev.step (f := fun k => exact_mulWords.l0 k b (out.set (i + b.length) c) a (a.length : Int) ((i + 1 : Nat) : Int)) (fun k => ?_) (next _ ⟨by rw [List.length_set]; exact hl, Dig_set hd _ hc.1 hc.2, ?_, fun j hj => ?_⟩)
    · simp only [exact_mulWords.l1, e1, e2]
      rw [if_neg (Int.lt_irrefl _), if_pos (Int.natCast_nonneg _), if_pos c2, Int.toNat_natCast]
    · rw [vB_set _ _ _ _ c1, hz _ (Nat.le_refl _), Int.sub_zero, hv, take_succ, vB_all _ _ _ (Nat.le_refl _), Int.add_mul, Int.mul_assoc]
    · rw [rd_set_ne _ _ _ _ (by clear hv e1 e2; omega)]
      exact hz j (by clear hv e1 e2; omega)
  | succ d ih =>
    intro j out c hj h
    have hj' : j < b.length := by omega
    have hn := mul_in ha hb hi hj' h
    have hl := h.1
    have c1 : i + j < out.length := by omega
    have c2 : ((i + j : Nat) : Int) < (out.length : Int) := Int.ofNat_lt.2 c1
    have c3 : (j : Int) < (b.length : Int) := Int.ofNat_lt.2 hj'
    have c4 : j + 1 + d = b.length := by omega
    have e1 : wrap64 ((i : Int) + (j : Int)) = ((i + j : Nat) : Int) := by rw [w64 (by omega) (by omega)]; omega
    have e2 : wrap64 ((j : Int) + 1) = ((j + 1 : Nat) : Int) := by clear e1; rw [w64 (by omega) (by omega)]; omega
    obtain ⟨-, hd, hc, -, -⟩ := h
    obtain ⟨x0, x1⟩ := Dig_rd ha i hi
    obtain ⟨y0, y1⟩ := Dig_rd hb j hj'
    obtain ⟨o0, o1⟩ := Dig_rd hd (i + j) c1
    obtain ⟨m0, m1, -, -⟩ := mul_add x0 x1 y0 y1 o0 o1 hc.1 hc.2
    have a1 := mul64_eq x0 x1 y0 y1
    have a2 := add64_eq (Int.emod_nonneg (rd a (i : Int) * rd b (j : Int)) (show (B64 : Int) ≠ 0 by decide)) o0 (Int.le_refl 0) (by decide)
    have a3 := add64_eq (Int.emod_nonneg (rd a (i : Int) * rd b (j : Int) % B64 + rd out ((i + j : Nat) : Int) + 0) (show (B64 : Int) ≠ 0 by decide)) hc.1 (Int.le_refl 0) (by decide)
    refine Ev.step (f := fun k => exact_mulWords.l1 k b (out.set (i + j) ((rd a (i : Int) * rd b (j : Int) + rd out ((i + j : Nat) : Int) + c) % B64)) (i : Int) (rd a (i : Int)) ((rd a (i : Int) * rd b (j : Int) + rd out ((i + j : Nat) : Int) + c) / B64) a (a.length : Int) (i : Int) b (b.length : Int) ((j + 1 : Nat) : Int)) (fun k => ?_) (ih (j + 1) _ _ c4 hn)
    simp only [exact_mulWords.l1, e1, e2]
    rw [if_pos c3, if_pos (Int.natCast_nonneg _), if_pos c3, a1, Option.bind_some, if_pos (Int.natCast_nonneg _), if_pos c2, a2, Option.bind_some, a3, Option.bind_some, m0, m1, Int.toNat_natCast]
theorem mulWords_l0 (a b : List Int) (ha : Dig B64 a) (hb : Dig B64 b) (la : a.length ≤ 1099511627776) (lb : b.length ≤ 1099511627776) : ∀ (d i : Nat) (out : List Int), i + d = a.length → MulOut a b out i →
    Ev (fun k => exact_mulWords.l0 k b out a (a.length : Int) (i : Int)) (d64 (vB B64 a * vB B64 b).toNat) := by
  intro d
  induction d with
  | zero =>
    intro i out hi h
    have hi : i = a.length := by omega
    subst hi
    obtain ⟨hl, hd, hv, hz⟩ := h
    rw [vB_all _ _ _ (Nat.le_refl _)] at hv
    refine Ev.step (f := fun k => (exact_trim.f k out).bind fun t => some t) (fun k => ?_) (Ev.bind (trim_ev hd (by omega)) ?_)
    · simp only [exact_mulWords.l0]
      rw [if_neg (Int.lt_irrefl _)]
    · rw [hv]
      exact Ev.now _
  | succ d ih =>
    intro i out hi h
    have hi' : i < a.length := by omega
    have c1 : (i : Int) < (a.length : Int) := Int.ofNat_lt.2 hi'
    obtain ⟨hl, hd, hv, hz⟩ := h
    refine Ev.step (f := fun k => exact_mulWords.l1 k b out (i : Int) (rd a (i : Int)) 0 a (a.length : Int) (i : Int) b (b.length : Int) ((0 : Nat) : Int)) (fun k => ?_) (mulWords_l1 a b ha hb la lb i hi' _ (fun out' h' => ih (i + 1) out' (by omega) h') b.length 0 out 0 (by omega) ⟨hl, hd, ⟨by decide, by decide⟩, ?_, hz⟩)
    · simp only [exact_mulWords.l0]
      rw [if_pos c1, if_pos (Int.natCast_nonneg _), if_pos c1]
      rfl
    · rw [hv]
      simp [vB]
theorem mulWords_ev {a b : List Int} (ha : Dig B64 a) (hb : Dig B64 b) (la : a.length ≤ 1099511627776) (lb : b.length ≤ 1099511627776) : Ev (fun k => exact_mulWords.f k a b) (d64 (vB B64 a * vB B64 b).toNat) := by
  have e1 : wrap64 ((a.length : Int) + (b.length : Int)) = ((a.length + b.length : Nat) : Int) := by rw [w64 (by omega) (by omega)]; omega
  refine Ev.congr (f := fun k => exact_mulWords.l0 k b (List.replicate (a.length + b.length) 0) a (a.length : Int) ((0 : Nat) : Int)) (fun k => ?_) (mulWords_l0 a b ha hb la lb a.length 0 _ (by omega) ⟨by simp, Dig_replicate (by decide) _, ?_, fun j _ => rd_replicate _ _⟩)
  · unfold exact_mulWords.f
    rw [e1, if_pos (Int.natCast_nonneg _), Int.toNat_natCast, if_pos (by omega)]
    rfl
  · rw [vB_replicate]
    simp [vB]
theorem mulWords_d64 {m n : Nat} (lm : (d64 m).length ≤ 1099511627776) (ln : (d64 n).length ≤ 1099511627776) : Ev (fun k => exact_mulWords.f k (d64 m) (d64 n)) (d64 (m * n)) := by
  have := mulWords_ev (d64_dig m) (d64_dig n) lm ln
  rw [d64_val, d64_val] at this
  rwa [show ((m : Int) * (n : Int)).toNat = m * n by rw [← Int.natCast_mul, Int.toNat_natCast]] at this
end Go.Proofs.YtohkmnbnjacfaaaN
set_option linter.unusedVariables false
namespace Go.Proofs.YtohkmnbnjacfaaaN
open Go.RowKit Go.Proofs.Ytohkmnbnjacfaaa.All Go.Proofs.YtohkmnbnjacfaaaW.PrintWords Go.Proofs.YtohkmnbnjacfaaaW.PrintLast Go.Proofs.YtohkmnbnjacfaaaW.PrintMore
theorem size_mono {m n : Nat} (h : m ≤ n) : (nat m).size ≤ (nat n).size := nat_size_le.2 (Nat.lt_of_le_of_lt h (nat_lt_size n))
theorem size_add {m n : Nat} : (nat (m + n)).size ≤ max (nat m).size (nat n).size + 1 := by
  apply nat_size_le.2
  have h1 := nat_lt_size m
  have h2 := nat_lt_size n
  have h3 : 256 ^ (nat m).size ≤ 256 ^ max (nat m).size (nat n).size := Nat.pow_le_pow_right (by decide) (Nat.le_max_left _ _)
  have h4 : 256 ^ (nat n).size ≤ 256 ^ max (nat m).size (nat n).size := Nat.pow_le_pow_right (by decide) (Nat.le_max_right _ _)
  rw [Nat.pow_succ]
  generalize 256 ^ max (nat m).size (nat n).size = P at *
  generalize 256 ^ (nat m).size = Q at *
  generalize 256 ^ (nat n).size = R at *
  omega
theorem words_len (n : Nat) : (d64 n).length ≤ ((nat n).size + 7) / 8 := by
  apply dgs_len
  have h1 := nat_lt_size n
  have h2 : 256 ^ (nat n).size ≤ 256 ^ (8 * (((nat n).size + 7) / 8)) := Nat.pow_le_pow_right (by decide) (by omega)
  rw [Nat.pow_mul] at h2
  exact Nat.lt_of_lt_of_le h1 h2
def AddOut (x y out : List Int) (i : Nat) (c : Int) : Prop :=
  out.length = x.length + 1 ∧ Dig B64 out ∧ (0 ≤ c ∧ c ≤ 1) ∧ vB B64 out + B64 ^ i * c = vB B64 (x.take i) + vB B64 (y.take i) ∧ ∀ n : Nat, i ≤ n → rd out (n : Int) = 0
theorem add_range {x y c : Int} (x0 : 0 ≤ x) (x1 : x < B64) (y0 : 0 ≤ y) (y1 : y < B64) (c0 : 0 ≤ c) (c1 : c ≤ 1) : 0 ≤ (x + y + c) / B64 ∧ (x + y + c) / B64 ≤ 1 := by
  have x1' : x < 18446744073709551616 := x1
  have y1' : y < 18446744073709551616 := y1
  show 0 ≤ (x + y + c) / 18446744073709551616 ∧ (x + y + c) / 18446744073709551616 ≤ 1
  omega
theorem add_out {x y out : List Int} {i : Nat} {c : Int} (hx : Dig B64 x) (hy : Dig B64 y) (hi : i < x.length) (h : AddOut x y out i c) :
    AddOut x y (out.set i ((rd x (i : Int) + rd y (i : Int) + c) % B64)) (i + 1) ((rd x (i : Int) + rd y (i : Int) + c) / B64) := by
  obtain ⟨hl, hd, hc, hv, hz⟩ := h
  obtain ⟨x0, x1⟩ := Dig_rd hx i hi
  obtain ⟨y0, y1⟩ := Dig_rd0 (by decide) hy i
  refine ⟨by rw [List.length_set]; exact hl, Dig_set hd _ (Int.emod_nonneg _ (by decide)) (Int.emod_lt_of_pos _ (by decide)), add_range x0 x1 y0 y1 hc.1 hc.2, ?_, fun n hn => ?_⟩
  · rw [vB_set _ _ _ _ (by clear hv; omega), hz _ (Nat.le_refl _), Int.sub_zero, take_succ, take_succ, Int.pow_succ]
    have e := Int.emod_add_mul_ediv (rd x (i : Int) + rd y (i : Int) + c) B64
    generalize (rd x (i : Int) + rd y (i : Int) + c) / B64 = q at *
    generalize (rd x (i : Int) + rd y (i : Int) + c) % B64 = r at *
    have er : r = rd x (i : Int) + rd y (i : Int) + c - B64 * q := by clear hv; omega
    rw [er, Int.mul_sub, Int.mul_add, Int.mul_add, Int.mul_assoc (B64 ^ i) B64 q]
    generalize (B64 : Int) ^ i = P at *
    omega
  · rw [rd_set_ne _ _ _ _ (by clear hv; omega)]
    exact hz n (by clear hv; omega)
theorem NatAdd_l0 (x y : List Int) (hx : Dig B64 x) (hy : Dig B64 y) (lx : x.length ≤ 1099511627775) (hyx : y.length ≤ x.length) (n : Nat) (hn : vB B64 x + vB B64 y = n) : ∀ (d i : Nat) (out : List Int) (c : Int), i + d = x.length → AddOut x y out i c →
    Ev (fun k => exact_NatAdd.l0 k x y out c (x.length : Int) (i : Int)) (nat n) := by
  intro d
  induction d with
  | zero =>
    intro i out c hi h
    have hi : i = x.length := by omega
    subst hi
    have hl := h.1
    have c1 : (x.length : Int) < (out.length : Int) := by omega
    have c2 : x.length < out.length := by omega
    have c3 : out.length ≤ 1099511627776 := by omega
    obtain ⟨-, hd, hc, hv, hz⟩ := h
    have hd' : Dig B64 (out.set x.length c) := Dig_set hd _ hc.1 (by have := hc.2; exact Int.lt_of_le_of_lt this (by decide))
    have hv' : vB B64 (out.set x.length c) = n := by
      rw [vB_set _ _ _ _ c2, hz _ (Nat.le_refl _), Int.sub_zero, hv, vB_all _ _ _ (Nat.le_refl _), vB_all _ _ _ hyx, hn]
    have := pack_ev hd' (by rw [List.length_set]; exact c3)
    rw [hv', Int.toNat_natCast] at this
    refine Ev.step (f := fun k => (exact_pack.f k (out.set x.length c)).bind fun t => some t) (fun k => ?_) (Ev.bind this (Ev.now _))
    simp only [exact_NatAdd.l0]
    rw [if_neg (Int.lt_irrefl _), if_pos (Int.natCast_nonneg _), if_pos c1, Int.toNat_natCast]
  | succ d ih =>
    intro i out c hi h
    have hi' : i < x.length := by omega
    have c0 : i + 1 + d = x.length := by omega
    have c1 : (i : Int) < (x.length : Int) := Int.ofNat_lt.2 hi'
    have hl := h.1
    have c2 : (i : Int) < (out.length : Int) := by omega
    have c3 : ¬ (i : Int) < (y.length : Int) → rd y (i : Int) = 0 := fun h => rd_far y i (by omega)
    have e1 : wrap64 ((i : Int) + 1) = ((i + 1 : Nat) : Int) := by clear c3; rw [w64 (by omega) (by omega)]; omega
    have hn' := add_out hx hy hi' h
    obtain ⟨-, hd, hc, -, -⟩ := h
    obtain ⟨x0, x1⟩ := Dig_rd hx i hi'
    obtain ⟨y0, y1⟩ := Dig_rd0 (by decide) hy i
    have ea := add64_eq x0 y0 hc.1 hc.2
    refine Ev.step (f := fun k => exact_NatAdd.l0 k x y (out.set i ((rd x (i : Int) + rd y (i : Int) + c) % B64)) ((rd x (i : Int) + rd y (i : Int) + c) / B64) (x.length : Int) ((i + 1 : Nat) : Int)) (fun k => ?_) (ih (i + 1) _ _ c0 hn')
    simp only [exact_NatAdd.l0, e1]
    rw [if_pos c1]
    by_cases hy' : (i : Int) < (y.length : Int)
    · rw [if_pos hy', if_pos (Int.natCast_nonneg _), if_pos c1, ea, Option.bind_some, if_pos c2, Int.toNat_natCast]
    · rw [c3 hy'] at ea
      rw [if_neg hy', if_pos (Int.natCast_nonneg _), if_pos c1, ea, Option.bind_some, if_pos c2, Int.toNat_natCast, c3 hy']
theorem NatAdd_j0 {m n : Nat} (hm : (d64 m).length ≤ 1099511627775) (h : (d64 n).length ≤ (d64 m).length) : Ev (fun k => exact_NatAdd.j0 k (d64 m) (d64 n)) (nat (m + n)) := by
  have e1 : wrap64 (((d64 m).length : Int) + 1) = (((d64 m).length + 1 : Nat) : Int) := by rw [w64 (by omega) (by omega)]; omega
  refine Ev.step (f := fun k => exact_NatAdd.l0 k (d64 m) (d64 n) (List.replicate ((d64 m).length + 1) 0) 0 ((d64 m).length : Int) ((0 : Nat) : Int)) (fun k => ?_) (NatAdd_l0 (d64 m) (d64 n) (d64_dig m) (d64_dig n) hm h (m + n) (by rw [d64_val, d64_val, Int.natCast_add]) (d64 m).length 0 _ _ (Nat.zero_add _) ⟨by simp, Dig_replicate (by decide) _, ⟨by decide, by decide⟩, ?_, fun j _ => rd_replicate _ _⟩)
  · simp only [exact_NatAdd.j0, e1]
    rw [if_pos (Int.natCast_nonneg _), Int.toNat_natCast, if_pos (by omega)]
    rfl
  · rw [vB_replicate]
    simp [vB]
theorem NatAdd_ev {m n : Nat} (hm : (nat m).size ≤ 1099511627776) (hn : (nat n).size ≤ 1099511627776) : Ev (fun k => exact_NatAdd.f k (nat m) (nat n)) (nat (m + n)) := by
  have lm := words_len m
  have ln := words_len n
  refine Ev.bind (f := fun k t318 => (exact_words.f k (nat n)).bind fun t321 => (if (t318.length : Int) < (t321.length : Int) then (exact_NatAdd.j0 k t321 t318) else (exact_NatAdd.j0 k t318 t321))) (words_nat hm) (Ev.bind (words_nat hn) ?_)
  by_cases h : ((d64 m).length : Int) < ((d64 n).length : Int)
  · refine Ev.congr (f := fun k => exact_NatAdd.j0 k (d64 n) (d64 m)) (fun k => if_pos h) ?_
    rw [Nat.add_comm m n]
    exact NatAdd_j0 (by omega) (by omega)
  · refine Ev.congr (f := fun k => exact_NatAdd.j0 k (d64 m) (d64 n)) (fun k => if_neg h) ?_
    exact NatAdd_j0 (by omega) (by omega)
def cmpN (m n : Nat) : Int := if m < n then -1 else if m = n then 0 else 1
def bv (l : List UInt8) : Int := vB 256 (l.map fun b => (b.toNat : Int)).reverse
theorem bv_cons (a : UInt8) (l : List UInt8) : bv (a :: l) = bv l + 256 ^ l.length * (a.toNat : Int) := by
  unfold bv
  rw [List.map_cons, List.reverse_cons, vB_append]
  simp [vB]
theorem bv_range (l : List UInt8) : 0 ≤ bv l ∧ bv l < 256 ^ l.length := by
  have hd : Dig 256 (l.map fun b => (b.toNat : Int)).reverse := by
    apply Dig_reverse
    intro x hx
    obtain ⟨b, _, rfl⟩ := List.mem_map.1 hx
    have := b.toNat_lt
    omega
  refine ⟨vB_nonneg (by decide) hd, ?_⟩
  have := vB_lt (by decide) hd
  rw [List.length_reverse, List.length_map] at this
  exact this
theorem less_val : ∀ (x y : List UInt8), x.length = y.length → (Op.bytesLess x y = true ↔ bv x < bv y)
  | [], [], _ => by simp [Op.bytesLess]
  | [], _ :: _, h => by simp at h
  | _ :: _, [], h => by simp at h
  | a :: x, b :: y, h => by
    have h' : x.length = y.length := by simpa using h
    have ih := less_val x y h'
    obtain ⟨a0, a1⟩ := bv_range x
    obtain ⟨b0, b1⟩ := bv_range y
    rw [bv_cons, bv_cons, h'] at *
    have hP : (0 : Int) < 256 ^ y.length := Int.pow_pos (by decide)
    generalize (256 : Int) ^ y.length = P at *
    simp only [Op.bytesLess, Bool.or_eq_true, Bool.and_eq_true, decide_eq_true_eq, beq_iff_eq, ih]
    have hlt : a < b ↔ a.toNat < b.toNat := UInt8.lt_iff_toNat_lt
    have heq : a = b ↔ a.toNat = b.toNat := UInt8.toNat_inj.symm
    rw [hlt, heq]
    rcases Nat.lt_trichotomy a.toNat b.toNat with hc | hc | hc
    · have : P * ((a.toNat : Int) + 1) ≤ P * (b.toNat : Int) := Int.mul_le_mul_of_nonneg_left (by omega) (by omega)
      rw [Int.mul_add, Int.mul_one] at this
      constructor
      · intro _; omega
      · intro _; exact Or.inl hc
    · rw [hc]
      constructor
      · rintro (h | ⟨_, h⟩)
        · omega
        · omega
      · intro h; exact Or.inr ⟨rfl, by omega⟩
    · have : P * ((b.toNat : Int) + 1) ≤ P * (a.toNat : Int) := Int.mul_le_mul_of_nonneg_left (by omega) (by omega)
      rw [Int.mul_add, Int.mul_one] at this
      constructor
      · rintro (h | ⟨h, _⟩) <;> omega
      · intro h; omega
theorem bv_bval (s : ByteArray) : bv s.toList = bval s := by
  unfold bv bval bytesOf
  rw [ByteArray.toList_eq]
theorem toList_len (s : ByteArray) : s.toList.length = s.size := by
  rw [ByteArray.toList_eq, data_length]
theorem less_nat {m n : Nat} (h : (nat m).size = (nat n).size) : Op.bytesLess (nat m).toList (nat n).toList = decide (m < n) := by
  have := less_val (nat m).toList (nat n).toList (by rw [toList_len, toList_len, h])
  rw [bv_bval, bv_bval, bval_nat, bval_nat, Int.ofNat_lt] at this
  rw [Bool.eq_iff_iff, this, decide_eq_true_iff]
theorem size_lt {m n : Nat} (h : (nat m).size < (nat n).size) : m < n := by
  rcases Nat.lt_or_ge m n with h1 | h1
  · exact h1
  · have := size_mono h1
    omega
theorem NatCmp_ev (m n : Nat) : Ev (fun k => exact_NatCmp.f k (nat m) (nat n)) (cmpN m n) := by
  have hj : ∀ b : Bool, b = decide (m < n) → Ev (fun k => exact_NatCmp.j0 k (nat m) (nat n) b) (cmpN m n) := by
    rintro b rfl
    refine Ev.step (f := fun _ => some (cmpN m n)) (fun k => ?_) (Ev.now _)
    simp only [exact_NatCmp.j0, toList_ext, nat_inj, decide_eq_true_eq, cmpN]
    split
    · rfl
    · split <;> rfl
  by_cases h1 : (nat m).size < (nat n).size
  · refine Ev.congr (f := fun k => exact_NatCmp.j0 k (nat m) (nat n) true) (fun k => ?_) (hj _ (by simp [size_lt h1]))
    unfold exact_NatCmp.f
    rw [if_pos (by omega)]
  · by_cases h2 : (nat m).size = (nat n).size
    · refine Ev.congr (f := fun k => exact_NatCmp.j0 k (nat m) (nat n) (Op.bytesLess (nat m).toList (nat n).toList)) (fun k => ?_) (hj _ (less_nat h2))
      unfold exact_NatCmp.f
      rw [if_neg (by omega), if_pos (by omega)]
    · refine Ev.congr (f := fun k => exact_NatCmp.j0 k (nat m) (nat n) false) (fun k => ?_) (hj _ (by
        have : n < m := size_lt (by omega)
        simp; omega))
      unfold exact_NatCmp.f
      rw [if_neg (by omega), if_neg (by omega)]
def chk (s : ByteArray) : Int := if 0 < s.size ∧ bt s 0 = 0 then 1 else if 1024 < s.size then 4 else 0
theorem Check_ev (s : ByteArray) : Ev (fun k => natural_Check.f k s) (chk s) := by
  have hj : ∀ b : Bool, (b = true ↔ 0 < s.size ∧ bt s 0 = 0) → Ev (fun k => natural_Check.j0 k s b) (chk s) := by
    intro b hb
    refine Ev.step (f := fun _ => some (chk s)) (fun k => ?_) (Ev.now _)
    unfold chk
    simp only [natural_Check.j0]
    by_cases h : b = true
    · rw [if_pos h, if_pos (hb.1 h)]
    · rw [if_neg h, if_neg (fun h' => h (hb.2 h'))]
      by_cases h3 : 1024 < s.size
      · rw [if_pos (by omega), if_pos h3]
      · rw [if_neg (by omega), if_neg h3]
  by_cases h : 0 < s.size
  · refine Ev.congr (f := fun k => natural_Check.j0 k s (bt s 0 == 0)) (fun k => ?_) (hj _ (by simp [h]))
    unfold natural_Check.f
    rw [if_pos (by omega), if_pos (by omega)]
  · refine Ev.congr (f := fun k => natural_Check.j0 k s false) (fun k => ?_) (hj _ (by simp [h]))
    unfold natural_Check.f
    rw [if_neg (by omega)]
theorem chk_nat {n : Nat} (h : (nat n).size ≤ 1024) : chk (nat n) = 0 := by
  unfold chk
  rw [if_neg, if_neg (by omega)]
  rintro ⟨h1, h2⟩
  rcases nat_wf n with h3 | h3
  · omega
  · exact h3 h2
theorem chk_zero {s : ByteArray} (h : chk s = 0) : s = nat (bval s).toNat ∧ s.size ≤ 1024 := by
  unfold chk at h
  by_cases h1 : 0 < s.size ∧ bt s 0 = 0
  · rw [if_pos h1] at h; omega
  · rw [if_neg h1] at h
    refine ⟨wf_nat ?_, ?_⟩
    · rcases Nat.eq_zero_or_pos s.size with h2 | h2
      · exact Or.inl h2
      · exact Or.inr (fun h3 => h1 ⟨h2, h3⟩)
    · rcases Nat.lt_or_ge 1024 s.size with h2 | h2
      · rw [if_pos h2] at h; omega
      · exact h2
def firstErr : List ByteArray → Int
  | [] => 0
  | s :: l => if chk s = 0 then firstErr l else chk s
theorem first_l0 (l : List ByteArray) (hl : l.length < 9223372036854775808) : ∀ (d i : Nat), i + d = l.length → Ev (fun k => natural_first.l0 k l (l.length : Int) (i : Int)) (firstErr (l.drop i)) := by
  intro d
  induction d with
  | zero =>
    intro i hi
    rw [List.drop_of_length_le (by omega)]
    refine Ev.step (f := fun _ => some 0) (fun k => ?_) (Ev.now _)
    simp only [natural_first.l0]
    rw [if_neg (by omega)]
  | succ d ih =>
    intro i hi
    have hi' : i < l.length := by omega
    have e1 : wrap64 ((i : Int) + 1) = ((i + 1 : Nat) : Int) := by rw [w64 (by omega) (by omega)]; omega
    have e2 : rdOf ByteArray.empty l (i : Int) = l[i] := by
      unfold rdOf
      rw [Int.toNat_natCast, List.getD_eq_getElem?_getD, List.getElem?_eq_getElem hi']
      rfl
    rw [List.drop_eq_getElem_cons hi', firstErr]
    refine Ev.step (f := fun k => (natural_Check.f k l[i]).bind fun t => if t = 0 then natural_first.l0 k l (l.length : Int) ((i + 1 : Nat) : Int) else some t) (fun k => ?_) (Ev.bind (Check_ev _) ?_)
    · simp only [natural_first.l0, e1, e2]
      rw [if_pos (by omega), if_pos (by omega), if_pos (by omega)]
    · by_cases h : chk l[i] = 0
      · rw [if_pos h]
        exact Ev.congr (fun k => if_pos h) (ih (i + 1) (by omega))
      · rw [if_neg h]
        exact Ev.congr (f := fun _ => some (chk l[i])) (fun k => if_neg h) (Ev.now _)
theorem first_ev (l : List ByteArray) (hl : l.length < 9223372036854775808) : Ev (fun k => natural_first.f k l) (firstErr l) := first_l0 l hl l.length 0 (by omega)
theorem first2 (a b : ByteArray) : Ev (fun k => natural_first.f k [a, b]) (firstErr [a, b]) := first_ev _ (by simp)
theorem first1 (a : ByteArray) : Ev (fun k => natural_first.f k [a]) (chk a) := by
  have := first_ev [a] (by simp)
  rwa [show firstErr [a] = chk a by unfold firstErr firstErr; split <;> simp_all] at this
theorem firstErr_ok {m n : Nat} (hm : (nat m).size ≤ 1024) (hn : (nat n).size ≤ 1024) : firstErr [nat m, nat n] = 0 := by simp [firstErr, chk_nat hm, chk_nat hn]
def bnd (n : Nat) : ByteArray × Int := if 1024 < (nat n).size then (⟨#[]⟩, 4) else (nat n, 0)
theorem bounded_eq (n : Nat) : natural_bounded.f (nat n) = some (bnd n) := by
  unfold natural_bounded.f bnd
  by_cases h : 1024 < (nat n).size
  · rw [if_pos (by omega), if_pos h]
  · rw [if_neg (by omega), if_neg h]
theorem bnd_ok {n : Nat} (h : (nat n).size ≤ 1024) : bnd n = (nat n, 0) := by
  unfold bnd
  rw [if_neg (by omega)]
theorem Add_ev {m n : Nat} (hm : (nat m).size ≤ 1024) (hn : (nat n).size ≤ 1024) : Ev (fun k => natural_Add.f k (nat m) (nat n)) (bnd (m + n)) := by
  have h := first2 (nat m) (nat n)
  rw [firstErr_ok hm hn] at h
  refine Ev.bind (f := fun k t442 => (if t442 = 0 then ((exact_NatAdd.f k (nat m) (nat n)).bind fun t443 => ((natural_bounded.f t443).bind fun bt444 => (some (bt444.1, bt444.2)))) else (some ((⟨#[]⟩ : ByteArray), t442)))) h ?_
  refine Ev.congr (fun k => if_pos rfl) (Ev.bind (f := fun k t443 => ((natural_bounded.f t443).bind fun bt444 => (some (bt444.1, bt444.2)))) (NatAdd_ev (by omega) (by omega)) ?_)
  rw [bounded_eq]
  exact Ev.now _
theorem Compare_ev {m n : Nat} (hm : (nat m).size ≤ 1024) (hn : (nat n).size ≤ 1024) : Ev (fun k => natural_Compare.f k (nat m) (nat n)) (cmpN m n, 0) := by
  have h := first2 (nat m) (nat n)
  rw [firstErr_ok hm hn] at h
  refine Ev.bind (f := fun k t449 => (if t449 = 0 then ((exact_NatCmp.f k (nat m) (nat n)).bind fun t450 => (some (t450, 0))) else (some (0, t449)))) h ?_
  exact Ev.congr (fun k => if_pos rfl) (Ev.bind (f := fun _ t450 => some (t450, 0)) (NatCmp_ev m n) (Ev.now _))
end Go.Proofs.YtohkmnbnjacfaaaN
set_option linter.unusedVariables false
namespace Go.Proofs.YtohkmnbnjacfaaaN
open Go.RowKit Go.Proofs.Ytohkmnbnjacfaaa.All Go.Proofs.YtohkmnbnjacfaaaW.PrintWords Go.Proofs.YtohkmnbnjacfaaaW.PrintLast Go.Proofs.YtohkmnbnjacfaaaW.PrintMore
theorem ev_some {α β : Type} {o : Option α} {f : Nat → α → Option β} {a : α} {r : β} (h : o = some a) (k : Ev (fun n => f n a) r) : Ev (fun n => o.bind (f n)) r := by subst h; exact k
theorem awake_ev : Ev (fun k => galoislaw01_awake.f k) true := Ev.of (fun k => galoislaw01_awake.mono k) (k := 60) (by decide +kernel)
theorem refCheck_eq (s : ByteArray) : galoisref01_Check.f s = some (chk s) := by
  have hv : galoisref01_Valid.f s = some (decide (s.size = 0 ∨ bt s 0 ≠ 0)) := by
    unfold galoisref01_Valid.f
    by_cases h : s.size = 0
    · rw [if_pos (toList_nil.2 h)]
      simp [h]
    · rw [if_neg (fun h' => h (toList_nil.1 h')), if_pos (by omega)]
      by_cases h2 : bt s 0 = 0 <;> simp [h, h2]
  unfold galoisref01_Check.f
  rw [hv, Option.bind_some]
  unfold chk galoisref01_Fits.f
  by_cases h : s.size = 0 ∨ bt s 0 ≠ 0
  · have hn : ¬ (0 < s.size ∧ bt s 0 = 0) := by
      intro h1
      rcases h with h | h
      · exact Nat.ne_of_gt h1.1 h
      · exact h h1.2
    rw [if_pos (decide_eq_true h), if_neg hn]
    by_cases h3 : 1024 < s.size
    · rw [if_pos (show (s.size : Int) > 1024 by omega), if_pos h3]
      rfl
    · rw [if_neg (show ¬ (s.size : Int) > 1024 by omega), if_neg h3]
      rfl
  · have hn : 0 < s.size ∧ bt s 0 = 0 := by
      refine ⟨Nat.pos_of_ne_zero fun h1 => h (Or.inl h1), ?_⟩
      rcases Decidable.em (bt s 0 = 0) with h2 | h2
      · exact h2
      · exact absurd (Or.inr h2) h
    rw [if_neg (by rw [decide_eq_true_eq]; exact h), if_pos hn]
theorem Add_ok {m n : Nat} (hm : (nat m).size ≤ 1024) (hn : (nat n).size ≤ 1024) (h : (nat (m + n)).size ≤ 1024) : Ev (fun k => natural_Add.f k (nat m) (nat n)) (nat (m + n), 0) := by
  have := Add_ev hm hn
  rwa [bnd_ok h] at this
theorem number {s : ByteArray} (h : chk s = 0) : ∃ n, s = nat n ∧ (nat n).size ≤ 1024 := by
  obtain ⟨h1, h2⟩ := chk_zero h
  exact ⟨_, h1, by rw [← h1]; exact h2⟩
end Go.Proofs.YtohkmnbnjacfaaaN
set_option linter.unusedVariables false
namespace Go.Proofs.YtohkmnbnjacfaaaN
open Go.RowKit Go.Proofs.Ytohkmnbnjacfaaa.All Go.Proofs.YtohkmnbnjacfaaaW.PrintWords Go.Proofs.YtohkmnbnjacfaaaW.PrintLast Go.Proofs.YtohkmnbnjacfaaaW.PrintMore
end Go.Proofs.YtohkmnbnjacfaaaN
set_option linter.unusedVariables false
namespace Go.Proofs.YtohkmnbnjacfaaaN
open Go.RowKit Go.Proofs.Ytohkmnbnjacfaaa.All Go.Proofs.YtohkmnbnjacfaaaW.PrintWords Go.Proofs.YtohkmnbnjacfaaaW.PrintLast Go.Proofs.YtohkmnbnjacfaaaW.PrintMore
end Go.Proofs.YtohkmnbnjacfaaaN
set_option linter.unusedVariables false
namespace Go.Proofs.YtohkmnbnjacfaaaN
open Go.RowKit Go.Proofs.Ytohkmnbnjacfaaa.All Go.Proofs.YtohkmnbnjacfaaaW.PrintWords Go.Proofs.YtohkmnbnjacfaaaW.PrintLast Go.Proofs.YtohkmnbnjacfaaaW.PrintMore
def SubMul (u v z : List Int) (q : Int) (i : Nat) (b c : Int) : Prop :=
  z.length = u.length ∧ Dig B64 z ∧ (0 ≤ b ∧ b ≤ 1) ∧ (0 ≤ c ∧ c < B64) ∧ vB B64 z + q * vB B64 (v.take i) = vB B64 u + B64 ^ i * (b + c)
theorem sub_mul {u v z : List Int} {q b c d e : Int} {i : Nat} (hz : i < z.length) (q0 : 0 ≤ q) (q1 : q < B64) (hv : Dig B64 v) (hi : i < v.length) (h : SubMul u v z q i b c) (d0 : 0 ≤ d) (d1 : d < B64) (e0 : 0 ≤ e) (e1 : e ≤ 1)
    (he : d = rd z (i : Int) - (q * rd v (i : Int) + 0 + c) % B64 - b + B64 * e) : SubMul u v (z.set i d) q (i + 1) e ((q * rd v (i : Int) + 0 + c) / B64) := by
  obtain ⟨hl, hd, hb, hc, hs⟩ := h
  obtain ⟨y0, y1⟩ := Dig_rd hv i hi
  obtain ⟨-, -, n0, n1⟩ := mul_add q0 q1 y0 y1 (Int.le_refl 0) (by decide) hc.1 hc.2
  refine ⟨by rw [List.length_set]; exact hl, Dig_set hd _ d0 d1, ⟨e0, e1⟩, ⟨n0, n1⟩, ?_⟩
  rw [vB_set _ _ _ _ hz, take_succ, Int.pow_succ, he]
  have g := Int.emod_add_mul_ediv (q * rd v (i : Int) + 0 + c) B64
  generalize (q * rd v (i : Int) + 0 + c) / B64 = C at *
  generalize (q * rd v (i : Int) + 0 + c) % B64 = l at *
  have er : l = q * rd v (i : Int) + c - B64 * C := by clear hs; omega
  have e2 : rd z (i : Int) - l - b + B64 * e - rd z (i : Int) = B64 * e + B64 * C - q * rd v (i : Int) - c - b := by clear hs; omega
  rw [e2]
  generalize rd v (i : Int) = y at *
  generalize vB B64 (List.take i v) = T at *
  generalize (B64 : Int) ^ i = P at *
  rw [Int.mul_add q, Int.mul_left_comm q P y, Int.mul_sub, Int.mul_sub, Int.mul_sub, Int.mul_add, Int.mul_assoc P B64, Int.mul_add B64, Int.mul_add P]
  rw [Int.mul_add] at hs
  generalize q * y = qy at *
  generalize P * qy = A at *
  generalize P * (B64 * e) = A1 at *
  generalize P * (B64 * C) = A2 at *
  generalize P * c = A3 at *
  generalize P * b = A4 at *
  omega
end Go.Proofs.YtohkmnbnjacfaaaN
set_option linter.unusedVariables false
namespace Go.Proofs.YtohkmnbnjacfaaaN
open Go.RowKit Go.Proofs.Ytohkmnbnjacfaaa.All Go.Proofs.YtohkmnbnjacfaaaW.PrintWords Go.Proofs.YtohkmnbnjacfaaaW.PrintLast Go.Proofs.YtohkmnbnjacfaaaW.PrintMore
end Go.Proofs.YtohkmnbnjacfaaaN
set_option linter.unusedVariables false
namespace Go.Proofs.YtohkmnbnjacfaaaN
open Go.RowKit Go.Proofs.Ytohkmnbnjacfaaa.All Go.Proofs.YtohkmnbnjacfaaaW.PrintWords Go.Proofs.YtohkmnbnjacfaaaW.PrintLast Go.Proofs.YtohkmnbnjacfaaaW.PrintMore
end Go.Proofs.YtohkmnbnjacfaaaN
set_option linter.unusedVariables false
namespace Go.Proofs.YtohkmnbnjacfaaaN
open Go.RowKit Go.Proofs.Ytohkmnbnjacfaaa.All Go.Proofs.YtohkmnbnjacfaaaW.PrintWords Go.Proofs.YtohkmnbnjacfaaaW.PrintLast Go.Proofs.YtohkmnbnjacfaaaW.PrintMore
end Go.Proofs.YtohkmnbnjacfaaaN
set_option linter.unusedVariables false
namespace Go.Proofs.YtohkmnbnjacfaaaN
open Go.RowKit Go.Proofs.Ytohkmnbnjacfaaa.All Go.Proofs.YtohkmnbnjacfaaaW.PrintWords Go.Proofs.YtohkmnbnjacfaaaW.PrintLast Go.Proofs.YtohkmnbnjacfaaaW.PrintMore
theorem nat_empty {n : Nat} : (nat n).toList = ([] : List UInt8) ↔ n = 0 := by rw [toList_nil, nat_size_zero]
end Go.Proofs.YtohkmnbnjacfaaaN
set_option linter.unusedVariables false
namespace Go.Proofs.YtohkmnbnjacfaaaN
open Go.RowKit Go.Proofs.Ytohkmnbnjacfaaa.All Go.Proofs.YtohkmnbnjacfaaaW.PrintWords Go.Proofs.YtohkmnbnjacfaaaW.PrintLast Go.Proofs.YtohkmnbnjacfaaaW.PrintMore
theorem len_mul (m n : Nat) : (d64 (m * n)).length ≤ (d64 m).length + (d64 n).length := by
  apply dgs_len
  have h1 := dgs_lt 18446744073709551614 m
  have h2 := dgs_lt 18446744073709551614 n
  rw [Nat.pow_add]
  exact Nat.lt_of_le_of_lt (Nat.mul_le_mul_right _ (Nat.le_of_lt h1)) (Nat.mul_lt_mul_of_pos_left h2 (Nat.lt_of_le_of_lt (Nat.zero_le _) h1))
theorem d64_one : d64 1 = [1] := by
  unfold d64
  rw [dgs_pos _ _ (by decide), show 1 / (18446744073709551614 + 2) = 0 from rfl, dgs_zero]
  rfl
theorem wraps_i64 (n : Int) (h0 : 0 ≤ n) (h1 : n < 2 ^ 63) : IntKind.i64.wrap n = n := by rw [IntKind.wrap_i64]; omega
theorem odd_bit (e : Nat) (h : e < 9223372036854775808) : Go.bits .and .i64 (e : Int) 1 = ((e % 2 : Nat) : Int) := by
  have := bits_mask .i64 63 (by decide) wraps_i64 1 (by decide) (e : Int) (by omega) (by omega)
  have e1 : (2 : Int) ^ 1 - 1 = 1 := rfl
  rw [e1] at this
  rw [this]
  omega
theorem NatPow_l0 : ∀ (e A X : Nat), e < 9223372036854775808 → (d64 A).length + 2 * e * (d64 X).length ≤ 1000000000000 → (d64 X).length ≤ 1000000000000 → Ev (fun k => exact_NatPow.l0 k (e : Int) (d64 A) (d64 X)) (nat (A * X ^ e)) := by
  intro e
  induction e using Nat.strongRecOn with
  | _ e ih =>
    intro A X he hl hx
    by_cases h : e = 0
    · subst h
      have p := pack_ev (d64_dig A) (by omega)
      rw [d64_val, Int.toNat_natCast] at p
      rw [Nat.pow_zero, Nat.mul_one]
      refine Ev.step (f := fun k => (exact_pack.f k (d64 A)).bind fun t => some t) (fun k => ?_) (Ev.bind p (Ev.now _))
      simp only [exact_NatPow.l0]
      rw [if_neg (by decide)]
    · have c1 : (e : Int) > 0 := by omega
      have hb := odd_bit e he
      have e2 : (e : Int) / 2 = ((e / 2 : Nat) : Int) := by omega
      have lXX := len_mul X X
      have lAX := len_mul A X
      have hX : (d64 X).length ≤ e * (d64 X).length := Nat.le_mul_of_pos_left _ (Nat.pos_of_ne_zero h)
      have h2 : 2 * e * (d64 X).length = 2 * (e * (d64 X).length) := Nat.mul_assoc _ _ _
      have hhalf : 2 * (e / 2) * (d64 (X * X)).length ≤ 4 * (e / 2 * (d64 X).length) := by
        have := Nat.mul_le_mul_left (2 * (e / 2)) lXX
        have e3 : 2 * (e / 2) * ((d64 X).length + (d64 X).length) = 4 * (e / 2 * (d64 X).length) := by
          rw [Nat.mul_add, Nat.mul_assoc]
          omega
        omega
      have hcut : 2 * (e / 2 * (d64 X).length) + e % 2 * (d64 X).length = e * (d64 X).length := by
        rw [← Nat.mul_assoc, ← Nat.add_mul]
        congr 1
        omega
      rw [h2] at hl
      have sq := mulWords_d64 (m := X) (n := X) (by omega) (by omega)
      by_cases ho : e % 2 = 1
      · rw [ho, Nat.one_mul] at hcut
        have ax := mulWords_d64 (m := A) (n := X) (by omega) (by omega)
        have hp : A * X ^ e = A * X * (X * X) ^ (e / 2) := by
          have : X ^ e = X * (X * X) ^ (e / 2) := by
            rw [← Nat.pow_two, ← Nat.pow_mul, Nat.mul_comm X, ← Nat.pow_succ]
            congr 1
            omega
          rw [this, Nat.mul_assoc]
        rw [hp]
        refine Ev.step (f := fun k => (exact_mulWords.f k (d64 A) (d64 X)).bind fun t301 => ((exact_mulWords.f k (d64 X) (d64 X)).bind fun t304 => exact_NatPow.l0 k ((e / 2 : Nat) : Int) t301 t304)) (fun k => ?_) (Ev.bind ax (Ev.bind sq (ih (e / 2) (by omega) _ _ (by omega) (by omega) (by omega))))
        simp only [exact_NatPow.l0, hb, e2]
        rw [if_pos c1, if_pos (by rw [ho]; rfl)]
      · have ho' : e % 2 = 0 := by omega
        rw [ho', Nat.zero_mul, Nat.add_zero] at hcut
        have hp : A * X ^ e = A * (X * X) ^ (e / 2) := by
          have : X ^ e = (X * X) ^ (e / 2) := by
            rw [← Nat.pow_two, ← Nat.pow_mul]
            congr 1
            omega
          rw [this]
        rw [hp]
        refine Ev.step (f := fun k => (exact_mulWords.f k (d64 X) (d64 X)).bind fun t307 => exact_NatPow.l0 k ((e / 2 : Nat) : Int) (d64 A) t307) (fun k => ?_) (Ev.bind sq (ih (e / 2) (by omega) _ _ (by omega) (by omega) (by omega)))
        simp only [exact_NatPow.l0, hb, e2]
        rw [if_pos c1, if_neg (by rw [ho']; decide)]
theorem NatPow_ev {m e : Nat} (hm : (nat m).size ≤ 100000) (he : e ≤ 100000) : Ev (fun k => exact_NatPow.f k (nat m) (e : Int)) (nat (m ^ e)) := by
  have lm := words_len m
  refine Ev.bind (words_nat (by omega)) ?_
  have h1 : 2 * e * (d64 m).length ≤ 200000 * 100000 := Nat.mul_le_mul (by omega) (by omega)
  have := NatPow_l0 e 1 m (by omega) (by rw [d64_one]; show 1 + _ ≤ _; omega) (by omega)
  rw [d64_one, Nat.one_mul] at this
  exact this
def bl (n : Nat) : Nat := if n = 0 then 0 else n.log2 + 1
theorem bl_lt (n : Nat) : n < 2 ^ bl n := by
  unfold bl
  split
  · subst_vars; decide
  · exact Nat.lt_log2_self
theorem bl_le {n : Nat} (h : n ≠ 0) : 1 ≤ bl n ∧ 2 ^ (bl n - 1) ≤ n := by
  unfold bl
  rw [if_neg h]
  exact ⟨by omega, by simpa using Nat.log2_self_le h⟩
theorem bl_unique {n b : Nat} (h : n ≠ 0) (hb : 1 ≤ b) (h1 : 2 ^ (b - 1) ≤ n) (h2 : n < 2 ^ b) : bl n = b := by
  obtain ⟨g1, g2⟩ := bl_le h
  have g3 := bl_lt n
  have k1 : b - 1 < bl n := (Nat.pow_lt_pow_iff_right (by decide : 1 < 2)).1 (Nat.lt_of_le_of_lt h1 g3)
  have k2 : bl n - 1 < b := (Nat.pow_lt_pow_iff_right (by decide : 1 < 2)).1 (Nat.lt_of_le_of_lt g2 h2)
  omega
theorem bl_size {n : Nat} : bl n ≤ 8 * (nat n).size := by
  by_cases h : n = 0
  · subst h; simp [bl]
  · have h1 := nat_lt_size n
    obtain ⟨g1, g2⟩ := bl_le h
    have e : 256 ^ (nat n).size = 2 ^ (8 * (nat n).size) := by rw [Nat.pow_mul]
    rw [e] at h1
    have k2 : bl n - 1 < 8 * (nat n).size := (Nat.pow_lt_pow_iff_right (by decide : 1 < 2)).1 (Nat.lt_of_le_of_lt g2 h1)
    omega
theorem NatBits_eq {n : Nat} (hn : (nat n).size ≤ 1099511627776) : exact_NatBits.f (nat n) = some (bl n : Int) := by
  unfold exact_NatBits.f
  by_cases h : n = 0
  · rw [if_pos (nat_empty.2 h), h]
    rfl
  · have hp : 0 < (nat n).size := Nat.pos_of_ne_zero fun h0 => h (nat_size_zero.1 h0)
    have hl := nat_size n
    rw [if_neg (fun h0 => h (nat_empty.1 h0)), if_pos (by omega)]
    have ht : bt (nat n) 0 = rd (d8 n) (((nat n).size - 1 : Nat) : Int) := by
      have := rd_reverse (d8 n) 0 (by omega)
      rw [bt_rd, nat_bytes]
      rw [show (d8 n).length - 1 - 0 = (nat n).size - 1 by omega] at this
      exact this
    have hne : bt (nat n) 0 ≠ 0 := by
      rcases nat_wf n with h1 | h1
      · omega
      · exact h1
    obtain ⟨b0, b1⟩ := bt_range (nat n) 0
    obtain ⟨t, ht2⟩ := Int.eq_ofNat_of_zero_le b0
    rw [ht2] at ht hne b1 ⊢
    have hv := vB_all 256 (d8 n) ((nat n).size - 1 + 1) (by omega)
    rw [take_succ, d8_val, ← ht] at hv
    have lo0 := vB_nonneg (show (0 : Int) ≤ 256 by decide) (Dig_take (d8_dig n) ((nat n).size - 1))
    have lo1 := vB_lt (show (0 : Int) < 256 by decide) (Dig_take (d8_dig n) ((nat n).size - 1))
    rw [List.length_take, Nat.min_eq_left (by omega)] at lo1
    obtain ⟨l, hlo⟩ := Int.eq_ofNat_of_zero_le lo0
    rw [hlo] at hv lo1
    have hv' : l + 256 ^ ((nat n).size - 1) * t = n := by
      apply Int.ofNat_inj.1
      rw [Int.natCast_add, Int.natCast_mul, Int.natCast_pow]
      exact hv
    have lo1' : l < 256 ^ ((nat n).size - 1) := by
      apply Int.ofNat_lt.1
      rw [Int.natCast_pow]
      exact lo1
    obtain ⟨h1, h2, h3⟩ := Lib.bitLenAux_bounds 64 t (by omega) (by omega)
    have h4 : Lib.bitLen t ≤ 8 := Lib.bitLen_le t 8 (by decide) (by omega)
    have eb : Lib.bitLenAux 64 t = Lib.bitLen t := rfl
    rw [eb] at h1 h2 h3
    generalize hL : Lib.bitLen t = L at *
    have hb : bl n = 8 * ((nat n).size - 1) + L := by
      have e8 : 256 ^ ((nat n).size - 1) = 2 ^ (8 * ((nat n).size - 1)) := by rw [Nat.pow_mul]
      rw [e8] at hv' lo1'
      apply bl_unique h (by omega)
      · rw [show 8 * ((nat n).size - 1) + L - 1 = 8 * ((nat n).size - 1) + (L - 1) by omega, Nat.pow_add]
        have := Nat.mul_le_mul_left (2 ^ (8 * ((nat n).size - 1))) h2
        omega
      · rw [Nat.pow_add]
        have := Nat.mul_le_mul_left (2 ^ (8 * ((nat n).size - 1))) (show t + 1 ≤ 2 ^ L by omega)
        rw [Nat.mul_add, Nat.mul_one] at this
        omega
    unfold bits_Len8.f
    rw [if_pos (by omega), Option.bind_some, Int.toNat_natCast, hL, hb]
    clear hv' lo1' hv lo1 h2 h3 hb
    rw [w64 (x := ((nat n).size : Int) - 1) (by omega) (by omega), w64 (x := 8 * (((nat n).size : Int) - 1)) (by omega) (by omega), w64 (by omega) (by omega)]
    congr 1
    omega
end Go.Proofs.YtohkmnbnjacfaaaN
set_option linter.unusedVariables false
namespace Go.Proofs.YtohkmnbnjacfaaaN
open Go.RowKit Go.Proofs.Ytohkmnbnjacfaaa.All Go.Proofs.YtohkmnbnjacfaaaW.PrintWords Go.Proofs.YtohkmnbnjacfaaaW.PrintLast Go.Proofs.YtohkmnbnjacfaaaW.PrintMore
theorem str_nat {l : List Int} {n : Nat} (hd : Dig 256 l) (ht : 0 < l.length → rd l 0 ≠ 0) (hv : vB 256 l.reverse = n) : strOfNums l = nat n := by
  have : l.reverse = d8 n := by
    refine d8_unique (Dig_reverse hd) (fun hp => ?_) hv
    rw [List.length_reverse] at hp ⊢
    have := rd_reverse l (l.length - 1) (by omega)
    rw [show l.length - 1 - (l.length - 1) = 0 by omega] at this
    rw [this]
    exact ht hp
  unfold nat
  rw [← this, List.reverse_reverse]
theorem drop_zeros (l : List Int) (hd : Dig 256 l) : Dig 256 (l.dropWhile (· == 0)) ∧ (0 < (l.dropWhile (· == 0)).length → rd (l.dropWhile (· == 0)) 0 ≠ 0) ∧ vB 256 (l.dropWhile (· == 0)).reverse = vB 256 l.reverse := by
  induction l with
  | nil => exact ⟨Dig_nil _, fun h => absurd h (by simp), rfl⟩
  | cons x l ih =>
    have h := Dig_cons.1 hd
    by_cases hx : x = 0
    · subst hx
      have e : (0 :: l).dropWhile (· == 0) = l.dropWhile (· == 0) := by simp [List.dropWhile]
      obtain ⟨h1, h2, h3⟩ := ih h.2
      rw [e]
      refine ⟨h1, h2, ?_⟩
      rw [h3, List.reverse_cons, vB_append]
      simp [vB]
    · have hb : (x == 0) = false := by simpa using hx
      have e : (x :: l).dropWhile (· == 0) = x :: l := by simp [List.dropWhile, hb]
      rw [e]
      exact ⟨hd, fun _ => hx, rfl⟩
theorem Of_eq {u : Nat} (hu : u < 18446744073709551616) : natural_Of.f (u : Int) = some (nat u) := by
  unfold natural_Of.f
  rw [if_pos ⟨by omega, by omega⟩]
  congr 1
  have hl : natural_Of.bytes (u : Int) 8 = [natural_Of.byte u 0, natural_Of.byte u 1, natural_Of.byte u 2, natural_Of.byte u 3, natural_Of.byte u 4, natural_Of.byte u 5, natural_Of.byte u 6, natural_Of.byte u 7] := rfl
  simp only [natural_Of.byte, Nat.reduceMul, Nat.reduceSub, Int.reducePow] at hl
  have hd : Dig 256 (natural_Of.bytes (u : Int) 8) := by
    rw [hl]
    repeat (refine Dig_cons.2 ⟨⟨Int.emod_nonneg _ (by decide), Int.emod_lt_of_pos _ (by decide)⟩, ?_⟩)
    exact Dig_nil _
  have hv : vB 256 (natural_Of.bytes (u : Int) 8).reverse = u := by
    rw [hl]
    simp only [List.reverse_cons, List.reverse_nil, List.nil_append, List.cons_append, vB]
    omega
  obtain ⟨h1, h2, h3⟩ := drop_zeros _ hd
  exact str_nat h1 h2 (by rw [h3, hv])
theorem NatTwo_eq {b : Nat} (hb : b ≤ 1099511627776) : exact_NatTwo.f (b : Int) = some (nat (2 ^ b)) := by
  have hr : b % 8 < 8 := Nat.mod_lt _ (by decide)
  have e1 : Int.tdiv (b : Int) 8 = ((b / 8 : Nat) : Int) := by rw [Int.tdiv_eq_ediv_of_nonneg (by omega)]; omega
  have e2 : Int.tmod (b : Int) 8 = ((b % 8 : Nat) : Int) := by rw [Int.tmod_eq_emod_of_nonneg (by omega)]; omega
  have e3 : wrap64 ((b / 8 : Nat) : Int) = ((b / 8 : Nat) : Int) := w64 (by omega) (by omega)
  have e4 : wrap64 (((b / 8 : Nat) : Int) + 1) = ((b / 8 + 1 : Nat) : Int) := by rw [w64 (by omega) (by omega)]; omega
  have e5 : shl .u8 1 ((b % 8 : Nat) : Int) = ((2 ^ (b % 8) : Nat) : Int) := by
    have : b % 8 = 0 ∨ b % 8 = 1 ∨ b % 8 = 2 ∨ b % 8 = 3 ∨ b % 8 = 4 ∨ b % 8 = 5 ∨ b % 8 = 6 ∨ b % 8 = 7 := by omega
    rcases this with h | h | h | h | h | h | h | h <;> rw [h] <;> decide
  have hx : 1 ≤ 2 ^ (b % 8) ∧ 2 ^ (b % 8) < 256 := by
    have : b % 8 = 0 ∨ b % 8 = 1 ∨ b % 8 = 2 ∨ b % 8 = 3 ∨ b % 8 = 4 ∨ b % 8 = 5 ∨ b % 8 = 6 ∨ b % 8 = 7 := by omega
    rcases this with h | h | h | h | h | h | h | h <;> rw [h] <;> decide
  unfold exact_NatTwo.f
  rw [e1, e2, e3, e4, if_pos (Int.natCast_nonneg _), Int.toNat_natCast, if_pos (by omega), Option.bind_some, if_pos (Int.natCast_nonneg _), if_pos (by rw [List.length_replicate]; omega), e5]
  congr 1
  have hs : (List.replicate (b / 8 + 1) (0 : Int)).set (0 : Int).toNat ((2 ^ (b % 8) : Nat) : Int) = ((2 ^ (b % 8) : Nat) : Int) :: List.replicate (b / 8) 0 := by
    rw [List.replicate_succ]
    rfl
  rw [hs]
  apply str_nat
  · exact Dig_cons.2 ⟨⟨by omega, by omega⟩, Dig_replicate (by decide) _⟩
  · intro _
    show ((2 ^ (b % 8) : Nat) : Int) ≠ 0
    omega
  · rw [List.reverse_cons, List.reverse_replicate, vB_append, vB_replicate, List.length_replicate]
    have : (2 : Nat) ^ b = 256 ^ (b / 8) * 2 ^ (b % 8) := by
      have e8 : (256 : Nat) ^ (b / 8) = 2 ^ (8 * (b / 8)) := by rw [Nat.pow_mul]
      rw [e8, ← Nat.pow_add, Nat.div_add_mod]
    rw [this, Int.natCast_mul, Int.natCast_pow]
    simp [vB]
theorem NatRoot_l0 {n K : Nat} (hK : 1 ≤ K) (hK1 : K ≤ 4096) (hn : (nat n).size ≤ 4096) : ∀ (c low : Nat), c ≤ bl n + 1 → low ^ K ≤ n → n < (low + 2 ^ c) ^ K → ∃ r, r ^ K ≤ n ∧ n < (r + 1) ^ K ∧ Ev (fun k => exact_NatRoot.l0 k (nat n) (K : Int) (nat low) ((c : Int) - 1)) (nat r) := by
  intro c
  induction c with
  | zero =>
    intro low _ h1 h2
    refine ⟨low, h1, h2, Ev.step (f := fun _ => some (nat low)) (fun k => ?_) (Ev.now _)⟩
    simp only [exact_NatRoot.l0]
    rw [if_neg (by decide)]
  | succ c ih =>
    intro low hc h1 h2
    have e0 : ((c + 1 : Nat) : Int) - 1 = (c : Int) := by omega
    have hbl := bl_size (n := n)
    have e1 : wrap64 ((c : Int) - 1) = (c : Int) - 1 := w64 (by omega) (by omega)
    have hlow : low ≤ n := Nat.le_trans (Nat.le_self_pow (by omega) low) h1
    have hs1 := size_mono hlow
    have hs2 : (nat (2 ^ c)).size ≤ (nat n).size + 1 := by
      apply nat_size_le.2
      have g : (256 : Nat) ^ ((nat n).size + 1) = 2 ^ (8 * ((nat n).size + 1)) := by rw [Nat.pow_mul]
      rw [g]
      exact Nat.pow_lt_pow_right (by decide) (by omega)
    have hs3 := size_add (m := low) (n := 2 ^ c)
    have t1 := NatTwo_eq (b := c) (by omega)
    have t2 := NatAdd_ev (m := low) (n := 2 ^ c) (by omega) (by omega)
    have t3 := NatPow_ev (m := low + 2 ^ c) (e := K) (by omega) (by omega)
    have t4 := NatCmp_ev ((low + 2 ^ c) ^ K) n
    rw [e0]
    have hadd : low + 2 ^ (c + 1) = low + 2 ^ c + 2 ^ c := by rw [Nat.pow_succ]; omega
    by_cases hle : (low + 2 ^ c) ^ K ≤ n
    · rw [hadd] at h2
      obtain ⟨r, r1, r2, r3⟩ := ih (low + 2 ^ c) (by omega) hle h2
      have hcmp : cmpN ((low + 2 ^ c) ^ K) n ≤ 0 := by
        unfold cmpN
        split
        · decide
        · rw [if_pos (by omega)]; decide
      refine ⟨r, r1, r2, Ev.step (f := fun k => (exact_NatAdd.f k (nat low) (nat (2 ^ c))).bind fun t344 => ((exact_NatPow.f k t344 (K : Int)).bind fun t345 => ((exact_NatCmp.f k t345 (nat n)).bind fun t346 => (if t346 ≤ 0 then (exact_NatRoot.l0 k (nat n) (K : Int) t344 ((c : Int) - 1)) else (exact_NatRoot.l0 k (nat n) (K : Int) (nat low) ((c : Int) - 1)))))) (fun k => ?_) (Ev.bind t2 (Ev.bind t3 (Ev.bind t4 (Ev.congr (fun k => if_pos hcmp) r3))))⟩
      simp only [exact_NatRoot.l0, e1]
      rw [if_pos (by omega), t1, Option.bind_some]
    · obtain ⟨r, r1, r2, r3⟩ := ih low (by omega) h1 (by omega)
      have hcmp : ¬ cmpN ((low + 2 ^ c) ^ K) n ≤ 0 := by
        unfold cmpN
        rw [if_neg (by omega), if_neg (by omega)]
        decide
      refine ⟨r, r1, r2, Ev.step (f := fun k => (exact_NatAdd.f k (nat low) (nat (2 ^ c))).bind fun t344 => ((exact_NatPow.f k t344 (K : Int)).bind fun t345 => ((exact_NatCmp.f k t345 (nat n)).bind fun t346 => (if t346 ≤ 0 then (exact_NatRoot.l0 k (nat n) (K : Int) t344 ((c : Int) - 1)) else (exact_NatRoot.l0 k (nat n) (K : Int) (nat low) ((c : Int) - 1)))))) (fun k => ?_) (Ev.bind t2 (Ev.bind t3 (Ev.bind t4 (Ev.congr (fun k => if_neg hcmp) r3))))⟩
      simp only [exact_NatRoot.l0, e1]
      rw [if_pos (by omega), t1, Option.bind_some]
theorem NatRoot_ev {n K : Nat} (hK : 1 ≤ K) (hK1 : K ≤ 4096) (hn : (nat n).size ≤ 4096) : ∃ r, r ^ K ≤ n ∧ n < (r + 1) ^ K ∧ Ev (fun k => exact_NatRoot.f k (nat n) (K : Int)) (nat r) := by
  have hbl := bl_size (n := n)
  have hb0 : (bl n + K - 1) / K ≤ bl n := by
    rcases Nat.eq_zero_or_pos (bl n) with h | h
    · rw [h, Nat.zero_add, Nat.div_eq_of_lt (by omega)]
      exact Nat.le_refl _
    · apply Nat.div_le_of_le_mul
      have : bl n + K ≤ K * bl n + 1 := by
        obtain ⟨j, rfl⟩ : ∃ j, K = j + 1 := ⟨K - 1, by omega⟩
        rw [Nat.add_mul, Nat.one_mul]
        have := Nat.le_mul_of_pos_right j h
        omega
      omega
  have hbK : bl n ≤ (bl n + K - 1) / K * K := by
    have h1 := Nat.div_add_mod (bl n + K - 1) K
    have h2 := Nat.mod_lt (bl n + K - 1) (show K > 0 by omega)
    rw [Nat.mul_comm] at h1
    omega
  generalize hB : (bl n + K - 1) / K = B at *
  have h2 : n < (0 + 2 ^ (B + 1)) ^ K := by
    rw [Nat.zero_add, ← Nat.pow_mul]
    refine Nat.lt_of_lt_of_le (bl_lt n) (Nat.pow_le_pow_right (by decide) ?_)
    rw [Nat.add_mul]
    omega
  obtain ⟨r, r1, r2, r3⟩ := NatRoot_l0 hK hK1 hn (B + 1) 0 (by omega) (by rw [Nat.zero_pow (by omega)]; exact Nat.zero_le _) h2
  refine ⟨r, r1, r2, Ev.congr (fun k => ?_) r3⟩
  unfold exact_NatRoot.f
  clear h2 r1 r2 r3
  have c0 : (nat n).size ≤ 1099511627776 := by omega
  have c1 : ¬ (K : Int) = 0 := by omega
  have c2 : (B : Int) = ((B + 1 : Nat) : Int) - 1 := by omega
  have e1 : wrap64 ((bl n : Int) + (K : Int)) = ((bl n + K : Nat) : Int) := by rw [w64 (by omega) (by omega)]; omega
  have e2 : wrap64 (((bl n + K : Nat) : Int) - 1) = ((bl n + K - 1 : Nat) : Int) := by clear e1; rw [w64 (by omega) (by omega)]; omega
  have e3 : wrap64 (Int.tdiv ((bl n + K - 1 : Nat) : Int) (K : Int)) = (B : Int) := by
    clear e1 e2
    rw [Int.tdiv_eq_ediv_of_nonneg (by omega), ← Int.natCast_ediv, hB, w64 (by omega) (by omega)]
  rw [NatBits_eq c0, Option.bind_some, if_neg c1, e1, e2, e3, nat_zero, c2]
theorem size_two {m a s : Nat} (h : (nat m).size ≤ s) (h2 : 2 ^ a ≤ m) : a < 8 * s := by
  have h1 := nat_size_le.1 h
  have e8 : (256 : Nat) ^ s = 2 ^ (8 * s) := by rw [Nat.pow_mul]
  rw [e8] at h1
  exact (Nat.pow_lt_pow_iff_right (by decide : 1 < 2)).1 (Nat.lt_of_le_of_lt h2 h1)
theorem Pow_ev {m e : Nat} (hm : (nat m).size ≤ 1024) (he : e ≤ 4096) : Ev (fun k => natural_Pow.f k (nat m) (e : Int)) (bnd (m ^ e)) := by
  have h := first1 (nat m)
  rw [chk_nat hm] at h
  refine Ev.bind h (Ev.congr (fun k => if_pos rfl) (Ev.congr (fun k => if_neg (show ¬ (e : Int) < 0 by omega)) ?_))
  rw [decide_eq_false (show ¬ (e : Int) > 4096 by omega)]
  have hj : Ev (fun k => natural_Pow.j1 k (nat m) (e : Int) false) (bnd (m ^ e)) := by
    refine Ev.step (f := fun k => (exact_NatPow.f k (nat m) (e : Int)).bind fun t315 => ((natural_bounded.f t315).bind fun bt316 => (some (bt316.1, bt316.2)))) (fun k => rfl) (Ev.bind (NatPow_ev (by omega) (by omega)) ?_)
    rw [bounded_eq]
    exact Ev.now _
  by_cases h0 : m = 0
  · refine Ev.step (f := fun k => natural_Pow.j1 k (nat m) (e : Int) false) (fun k => ?_) hj
    simp only [natural_Pow.j0]
    rw [if_neg Bool.false_ne_true, if_pos (nat_empty.2 h0)]
  · have hb := bl_size (n := m)
    obtain ⟨g1, g2⟩ := bl_le h0
    have hle : (bl m - 1) * e ≤ 8191 * 4096 := Nat.mul_le_mul (by omega) he
    have e1 : wrap64 ((bl m : Int) - 1) = ((bl m - 1 : Nat) : Int) := by rw [w64 (by omega) (by omega)]; omega
    have e2 : wrap64 (((bl m - 1 : Nat) : Int) * (e : Int)) = (((bl m - 1) * e : Nat) : Int) := by
      rw [← Int.natCast_mul]
      generalize (bl m - 1) * e = A at *
      exact w64 (by omega) (by omega)
    refine Ev.step (f := fun k => natural_Pow.j1 k (nat m) (e : Int) (decide ((((bl m - 1) * e : Nat) : Int) > 8192))) (fun k => ?_) ?_
    · simp only [natural_Pow.j0]
      rw [if_neg Bool.false_ne_true, if_neg (fun h => h0 (nat_empty.1 h)), NatBits_eq (by omega), Option.bind_some, e1, e2]
    · by_cases hbig : (((bl m - 1) * e : Nat) : Int) > 8192
      · rw [decide_eq_true hbig]
        refine Ev.step (f := fun _ => some (bnd (m ^ e))) (fun k => ?_) (Ev.now _)
        have hs : 1024 < (nat (m ^ e)).size := by
          rcases Nat.lt_or_ge 1024 (nat (m ^ e)).size with h | h
          · exact h
          · exfalso
            have h2 := Nat.pow_le_pow_left g2 e
            rw [← Nat.pow_mul] at h2
            have h3 := size_two h h2
            clear h2
            omega
        unfold bnd
        rw [if_pos hs]
        rfl
      · rw [decide_eq_false hbig]
        exact hj
theorem Root_ev {n K : Nat} (hn : (nat n).size ≤ 1024) (hK : 1 ≤ K) (hK1 : K ≤ 4096) : ∃ r, r ^ K ≤ n ∧ n < (r + 1) ^ K ∧ Ev (fun k => natural_Root.f k (nat n) (K : Int)) (nat r, 0) := by
  have h := first1 (nat n)
  rw [chk_nat hn] at h
  have go : ∀ r, Ev (fun k => natural_Root.j0 k (nat n) (K : Int) false) (nat r, 0) → Ev (fun k => natural_Root.f k (nat n) (K : Int)) (nat r, 0) := by
    intro r hr
    refine Ev.bind h (Ev.congr (fun k => if_pos rfl) (Ev.congr (fun k => if_neg (show ¬ (K : Int) < 1 by omega)) ?_))
    rw [decide_eq_false (show ¬ (K : Int) > 4096 by omega)]
    exact hr
  obtain ⟨r, r1, r2, r3⟩ := NatRoot_ev hK hK1 (show (nat n).size ≤ 4096 by omega)
  have hj : Ev (fun k => natural_Root.j1 k (nat n) (K : Int) false) (nat r, 0) :=
    Ev.step (f := fun k => (exact_NatRoot.f k (nat n) (K : Int)).bind fun t353 => some (t353, 0)) (fun k => rfl) (Ev.bind r3 (Ev.now _))
  by_cases h0 : n = 0
  · refine ⟨r, r1, r2, go r (Ev.step (f := fun k => natural_Root.j1 k (nat n) (K : Int) false) (fun k => ?_) hj)⟩
    simp only [natural_Root.j0]
    rw [if_neg Bool.false_ne_true, if_pos (nat_empty.2 h0)]
  · by_cases hb : (K : Int) ≥ (bl n : Int)
    · obtain ⟨g1, g2⟩ := bl_le h0
      have hlt := bl_lt n
      refine ⟨1, by rw [Nat.one_pow]; omega, Nat.lt_of_lt_of_le hlt (Nat.pow_le_pow_right (by decide) (by omega)), go 1 (Ev.step (f := fun k => natural_Root.j1 k (nat n) (K : Int) true) (fun k => ?_) (Ev.step (f := fun _ => some (nat 1, 0)) (fun k => ?_) (Ev.now _)))⟩
      · simp only [natural_Root.j0]
        rw [if_neg Bool.false_ne_true, if_neg (fun h => h0 (nat_empty.1 h)), NatBits_eq (by omega), Option.bind_some, decide_eq_true hb]
      · simp only [natural_Root.j1]
        have := Of_eq (u := 1) (by decide)
        rw [show ((1 : Nat) : Int) = 1 from rfl] at this
        rw [if_pos trivial, this, Option.bind_some]
    · refine ⟨r, r1, r2, go r (Ev.step (f := fun k => natural_Root.j1 k (nat n) (K : Int) false) (fun k => ?_) hj)⟩
      simp only [natural_Root.j0]
      rw [if_neg Bool.false_ne_true, if_neg (fun h => h0 (nat_empty.1 h)), NatBits_eq (by omega), Option.bind_some, decide_eq_false hb]
theorem Pow_ok {m e : Nat} (hm : (nat m).size ≤ 1024) (he : e ≤ 4096) (h : (nat (m ^ e)).size ≤ 1024) : Ev (fun k => natural_Pow.f k (nat m) (e : Int)) (nat (m ^ e), 0) := by
  have := Pow_ev hm he
  rwa [bnd_ok h] at this
end Go.Proofs.YtohkmnbnjacfaaaN
set_option linter.unusedVariables false
namespace Go.Proofs.Ytohkmnbnjacfaaa.Pure
open Go.RowKit Go.Proofs.Ytohkmnbnjacfaaa.All Go.Proofs.YtohkmnbnjacfaaaN Go.Proofs.YtohkmnbnjacfaaaW.PrintWords Go.Proofs.YtohkmnbnjacfaaaW.PrintLast
theorem nat_one : nat 1 = ⟨#[1]⟩ := by
  unfold nat d8
  rw [dgs_pos _ _ (by decide), show 1 / (254 + 2) = 0 from rfl, dgs_zero]
  rfl
theorem one_ev : Ev (fun k => galoislaw01_nat.f k 1) (nat 1) := by
  rw [nat_one]
  exact Ev.of (fun k => galoislaw01_nat.mono 1 k) (k := 30) (by decide +kernel)
theorem NaturalRoots : galoislaw01_NaturalRoots.Pure := by
  intro a x _ hx
  have hx2 : 0 ≤ x ∧ x < 256 := by
    simp only [Lit.wf, Bool.and_eq_true, decide_eq_true_eq] at hx
    have e1 : IntKind.min .u8 = 0 := by decide
    have e2 : IntKind.max .u8 = 255 := by decide
    omega
  apply Ev.rounds
  have skip : Ev (fun k => galoislaw01_NaturalRoots.j0 k a x true) true :=
    Ev.step (f := fun k => (galoislaw01_awake.f k).bind fun t => some t) (fun k => rfl) (Ev.bind awake_ev (Ev.now _))
  refine Ev.bind awake_ev ?_
  refine Ev.congr (fun k => if_pos rfl) ?_
  by_cases h1 : (a.size : Int) > 60
  · exact Ev.congr (fun k => if_pos h1) skip
  refine Ev.congr (fun k => if_neg h1) ?_
  refine ev_some (refCheck_eq a) ?_
  by_cases h3 : ¬ chk a = 0
  · have : (chk a != 0) = true := by simpa using h3
    rw [this]
    exact skip
  replace h3 := Decidable.not_not.1 h3
  rw [h3]
  obtain ⟨n, rfl, -⟩ := number h3
  clear skip h3
  have sn : (nat n).size ≤ 60 := by omega
  clear h1
  obtain ⟨c, rfl⟩ := Int.eq_ofNat_of_zero_le hx2.1
  have hc : c < 256 := by omega
  have w2 : ∀ _ : Unit, wrap64 (c : Int) = (c : Int) := fun _ => w64 (by omega) (by omega)
  have w3 : ∀ _ : Unit, Int.tmod (c : Int) 40 = ((c % 40 : Nat) : Int) := fun _ => by rw [Int.tmod_eq_emod_of_nonneg (by omega)]; omega
  have w7 : ∀ _ : Unit, wrap64 (1 + ((c % 40 : Nat) : Int)) = ((1 + c % 40 : Nat) : Int) := fun _ => by rw [w64 (by omega) (by omega)]; omega
  obtain ⟨K, hK⟩ : ∃ K, K = 1 + c % 40 := ⟨_, rfl⟩
  have K0 : 1 ≤ K := by omega
  have K1 : K ≤ 40 := by omega
  obtain ⟨r, r1, r2, r3⟩ := Root_ev (n := n) (K := K) (by omega) K0 (by omega)
  have hr : r ≤ n := Nat.le_trans (Nat.le_self_pow (by omega) r) r1
  have s1 := size_mono hr
  have s2 := size_add (m := r) (n := 1)
  have so : (nat 1).size ≤ 1 := nat_size_le.2 (by decide)
  have s3 := size_mono r1
  have s4 : (nat ((r + 1) ^ K)).size ≤ (nat n).size + 6 := by
    apply nat_size_le.2
    have hn := nat_lt_size n
    have e : (256 : Nat) ^ ((nat n).size + 6) = 256 ^ (nat n).size * 2 ^ 48 := by rw [Nat.pow_add]
    rw [e]
    rcases Nat.eq_zero_or_pos r with h | h
    · subst h
      rw [Nat.zero_add, Nat.one_pow]
      have : 0 < 256 ^ (nat n).size := Nat.pow_pos (by decide)
      omega
    · have h1 : (r + 1) ^ K ≤ (r * 2) ^ K := Nat.pow_le_pow_left (by omega) K
      rw [Nat.mul_pow] at h1
      have h2 : 2 ^ K ≤ 2 ^ 40 := Nat.pow_le_pow_right (by decide) K1
      have h3 : r ^ K * 2 ^ K ≤ n * 2 ^ 40 := Nat.mul_le_mul r1 h2
      have h4 : (2 : Nat) ^ 40 = 1099511627776 := rfl
      have h5 : (2 : Nat) ^ 48 = 281474976710656 := rfl
      rw [h4] at h3
      rw [h5]
      generalize 256 ^ (nat n).size = P at *
      generalize (r + 1) ^ K = A at *
      generalize r ^ K * 2 ^ K = A1 at *
      clear h2 h4 h5 r1 r2
      omega
  have e1 : cmpN (r ^ K) n ≤ 0 := by
    unfold cmpN
    split
    · decide
    · rw [if_pos (by omega)]; decide
  have e2 : cmpN n ((r + 1) ^ K) = -1 := by unfold cmpN; rw [if_pos r2]
  refine Ev.step (fun k => rfl) ?_
  simp only [galoislaw01_NaturalRoots.j0, bne_self_eq_false, Bool.false_eq_true, if_false, w2 (), w3 (), w7 ()]
  rw [← hK]
  refine Ev.bind r3 ?_
  refine Ev.bind one_ev ?_
  refine Ev.bind (Add_ok (by omega) (by omega) (by omega)) ?_
  refine Ev.bind (Pow_ok (by omega) (by omega) (by omega)) ?_
  refine Ev.bind (Pow_ok (by omega) (by omega) (by omega)) ?_
  refine Ev.bind (Compare_ev (by omega) (by omega)) ?_
  refine Ev.bind (Compare_ev (by omega) (by omega)) ?_
  refine Ev.congr (f := fun _ => some true) (fun k => ?_) (Ev.now _)
  simp [e1, e2]
end Go.Proofs.Ytohkmnbnjacfaaa.Pure
