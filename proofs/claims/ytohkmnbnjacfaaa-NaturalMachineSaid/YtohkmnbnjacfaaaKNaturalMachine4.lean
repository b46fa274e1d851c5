/- Part of the proof of the statement NaturalMachine: lemmas on the model's steps, Lean functions that say what the program's functions compute, and proofs that the calls do just that. No hypothesis is added. -/
import Derived.Test.YtohkmnbnjacfaaaKNaturalMachine3
set_option linter.all false
namespace Go.Proofs.Ytohkmnbnjacfaaa.All
open Go.Proofs.YtohkmnbnjacfaaaX
open Go.RowKit Go.Proofs.YtohkmnbnjacfaaaW.PrintWords Go.Proofs.YtohkmnbnjacfaaaW.PrintLast Go.Proofs.YtohkmnbnjacfaaaW.PrintMore
attribute [local go_sem] max2_int min2_int max_two min_two max_three min_three max_four min_four
set_option linter.unusedVariables false
set_option linter.unusedSimpArgs false
mutual
def galoislaw01_NaturalMachine.j0 : Nat → Int → ByteArray → Bool → Option (Bool)
 | 0, _, _, _ => none
 | k + 1, x0, x1, x18 => if x18 = true then ((galoislaw01_awake.f k).bind fun t640 => (some t640)) else ((natural_Of.f x0).bind fun t641 => ((natural_Uint.f k t641).bind fun bt642 => ((natural_Uint.f k x1).bind fun bt644 => ((natural_Of.f x0).bind fun t646 => ((galoisref01_Of.f k x0).bind fun t647 => (if t646.toList = t647.toList then (if bt642.1 = x0 then (galoislaw01_NaturalMachine.j1 k x1 bt644.1 bt644.2 (bt642.2 != 0)) else (galoislaw01_NaturalMachine.j1 k x1 bt644.1 bt644.2 true)) else (galoislaw01_NaturalMachine.j1 k x1 bt644.1 bt644.2 true)))))))
def galoislaw01_NaturalMachine.j1 : Nat → ByteArray → Int → Int → Bool → Option (Bool)
 | 0, _, _, _, _ => none
 | k + 1, x1, x7, x8, x44 => if x44 = true then (some false) else ((galoisref01_Check.f x1).bind fun t648 => ((galoisref01_Uint.f k x1).bind fun bt649 => (if t648 = 0 then (galoislaw01_NaturalMachine.j2 k x1 x7 x8 t648 bt649.1 (!bt649.2)) else (galoislaw01_NaturalMachine.j2 k x1 x7 x8 t648 bt649.1 false))))
def galoislaw01_NaturalMachine.j2 : Nat → ByteArray → Int → Int → Int → Int → Bool → Option (Bool)
 | 0, _, _, _, _, _, _ => none
 | k + 1, x1, x7, x8, x9, x10, x57 => if x57 = true then (if 3 = 0 then (if x7 = x10 then (if x8 = 0 then ((natural_Of.f x7).bind fun t651 => (some (t651.toList == x1.toList))) else (some false)) else (some false)) else (if x7 = 0 then (some (x8 == 3)) else (some false))) else (if x9 = 0 then (if x7 = x10 then (if x8 = 0 then ((natural_Of.f x7).bind fun t652 => (some (t652.toList == x1.toList))) else (some false)) else (some false)) else (if x7 = 0 then (some (x8 == x9)) else (some false)))
end
def galoislaw01_NaturalMachine.f (k : Nat) (a0 : Int) (a1 : ByteArray) : Option (Bool) := (galoislaw01_awake.f k).bind fun t639 => (if t639 = true then (galoislaw01_NaturalMachine.j0 k a0 a1 (decide ((a1.size : Int) > 1100))) else (galoislaw01_NaturalMachine.j0 k a0 a1 true))
theorem galoislaw01_NaturalMachine.mono_l : ∀ k, (∀ y0 y1 y2, LeO (galoislaw01_NaturalMachine.j0 k y0 y1 y2) (galoislaw01_NaturalMachine.j0 (k + 1) y0 y1 y2)) ∧ (∀ y0 y1 y2 y3, LeO (galoislaw01_NaturalMachine.j1 k y0 y1 y2 y3) (galoislaw01_NaturalMachine.j1 (k + 1) y0 y1 y2 y3)) ∧ (∀ y0 y1 y2 y3 y4 y5, LeO (galoislaw01_NaturalMachine.j2 k y0 y1 y2 y3 y4 y5) (galoislaw01_NaturalMachine.j2 (k + 1) y0 y1 y2 y3 y4 y5))
 | 0 => ⟨fun _ _ _ r h => by simp [galoislaw01_NaturalMachine.j0] at h, fun _ _ _ _ r h => by simp [galoislaw01_NaturalMachine.j1] at h, fun _ _ _ _ _ _ r h => by simp [galoislaw01_NaturalMachine.j2] at h⟩
 | k + 1 => by
  obtain ⟨ih0, ih1, ih2⟩ := galoislaw01_NaturalMachine.mono_l k
  refine ⟨?_, ?_, ?_⟩
  ·intro y0 y1 y2
   unfold galoislaw01_NaturalMachine.j0
   repeat' first
   | (with_reducible exact ih0 _ _ _)
   | (with_reducible exact ih1 _ _ _ _)
   | (with_reducible exact ih2 _ _ _ _ _ _)
   | (with_reducible exact galoislaw01_awake.mono _)
   | (with_reducible exact galoisref01_Of.mono _ _)
   | (with_reducible exact galoisref01_Uint.mono _ _)
   | (with_reducible exact natural_Uint.mono _ _)
   | (with_reducible exact LeO.refl _)
   | (with_reducible exact LeO.none _)
   | (with_reducible refine LeO.ite ?_ ?_)
   | (with_reducible refine LeO.bind ?_ (fun _ => ?_))
   | exact ih0 _ _ _
   | exact ih1 _ _ _ _
   | exact ih2 _ _ _ _ _ _
   | exact galoislaw01_awake.mono _
   | exact galoisref01_Of.mono _ _
   | exact galoisref01_Uint.mono _ _
   | exact natural_Uint.mono _ _
   | exact LeO.none _
   | refine LeO.ite ?_ ?_
   | refine LeO.bind ?_ (fun _ => ?_)
  ·intro y0 y1 y2 y3
   unfold galoislaw01_NaturalMachine.j1
   repeat' first
   | (with_reducible exact ih0 _ _ _)
   | (with_reducible exact ih1 _ _ _ _)
   | (with_reducible exact ih2 _ _ _ _ _ _)
   | (with_reducible exact galoislaw01_awake.mono _)
   | (with_reducible exact galoisref01_Of.mono _ _)
   | (with_reducible exact galoisref01_Uint.mono _ _)
   | (with_reducible exact natural_Uint.mono _ _)
   | (with_reducible exact LeO.refl _)
   | (with_reducible exact LeO.none _)
   | (with_reducible refine LeO.ite ?_ ?_)
   | (with_reducible refine LeO.bind ?_ (fun _ => ?_))
   | exact ih0 _ _ _
   | exact ih1 _ _ _ _
   | exact ih2 _ _ _ _ _ _
   | exact galoislaw01_awake.mono _
   | exact galoisref01_Of.mono _ _
   | exact galoisref01_Uint.mono _ _
   | exact natural_Uint.mono _ _
   | exact LeO.none _
   | refine LeO.ite ?_ ?_
   | refine LeO.bind ?_ (fun _ => ?_)
  ·intro y0 y1 y2 y3 y4 y5
   unfold galoislaw01_NaturalMachine.j2
   repeat' first
   | (with_reducible exact ih0 _ _ _)
   | (with_reducible exact ih1 _ _ _ _)
   | (with_reducible exact ih2 _ _ _ _ _ _)
   | (with_reducible exact galoislaw01_awake.mono _)
   | (with_reducible exact galoisref01_Of.mono _ _)
   | (with_reducible exact galoisref01_Uint.mono _ _)
   | (with_reducible exact natural_Uint.mono _ _)
   | (with_reducible exact LeO.refl _)
   | (with_reducible exact LeO.none _)
   | (with_reducible refine LeO.ite ?_ ?_)
   | (with_reducible refine LeO.bind ?_ (fun _ => ?_))
   | exact ih0 _ _ _
   | exact ih1 _ _ _ _
   | exact ih2 _ _ _ _ _ _
   | exact galoislaw01_awake.mono _
   | exact galoisref01_Of.mono _ _
   | exact galoisref01_Uint.mono _ _
   | exact natural_Uint.mono _ _
   | exact LeO.none _
   | refine LeO.ite ?_ ?_
   | refine LeO.bind ?_ (fun _ => ?_)
theorem galoislaw01_NaturalMachine.mono : ∀ a0 a1 k, LeO (galoislaw01_NaturalMachine.f k a0 a1) (galoislaw01_NaturalMachine.f (k + 1) a0 a1) := by
 intro a0 a1 k
 obtain ⟨ih0, ih1, ih2⟩ := galoislaw01_NaturalMachine.mono_l k
 unfold galoislaw01_NaturalMachine.f
 repeat' first
   | (with_reducible exact ih0 _ _ _)
   | (with_reducible exact ih1 _ _ _ _)
   | (with_reducible exact ih2 _ _ _ _ _ _)
   | (with_reducible exact galoislaw01_awake.mono _)
   | (with_reducible exact galoisref01_Of.mono _ _)
   | (with_reducible exact galoisref01_Uint.mono _ _)
   | (with_reducible exact natural_Uint.mono _ _)
   | (with_reducible exact LeO.refl _)
   | (with_reducible exact LeO.none _)
   | (with_reducible refine LeO.ite ?_ ?_)
   | (with_reducible refine LeO.bind ?_ (fun _ => ?_))
   | exact ih0 _ _ _
   | exact ih1 _ _ _ _
   | exact ih2 _ _ _ _ _ _
   | exact galoislaw01_awake.mono _
   | exact galoisref01_Of.mono _ _
   | exact galoisref01_Uint.mono _ _
   | exact natural_Uint.mono _ _
   | exact LeO.none _
   | refine LeO.ite ?_ ?_
   | refine LeO.bind ?_ (fun _ => ?_)
set_option maxHeartbeats 8000000 in
set_option maxRecDepth 100000 in
theorem galoislaw01_NaturalMachine.calls (k : Nat) (a0 : Int) (a1 : ByteArray) (r : Bool) (w : World) (h : galoislaw01_NaturalMachine.f k a0 a1 = some r) :
  Calls Try.prog 6 #[.int .u64 a0, .string a1] w fun e w' => e = .returned (.bool r) ∧ Below w.heap.size w w' := by
 have HB := Aside0.mk (Below.refl w.heap.size w)
 have H : ((galoislaw01_awake.f k).bind fun t639 => (if t639 = true then (galoislaw01_NaturalMachine.j0 k a0 a1 (decide ((a1.size : Int) > 1100))) else (galoislaw01_NaturalMachine.j0 k a0 a1 true))) = some r := h
 clear h
 have HC3 := Aside0.mk H
 clear H
 go_enter Try.func6, Try.ntmps6
 go_upto_region 1 with (fail)
 go_cut [18] (fun v18 wc => ∃ (kq : Nat) (x18_2 : Bool), v18 = .bool x18_2 ∧ Aside0 (galoislaw01_NaturalMachine.j0 kq a0 a1 x18_2 = some r) ∧ Aside0 (kq ≤ k) ∧ Aside0 (Below w.heap.size w wc))
 case first =>
  have H := HC3.out
  clear HC3
  replace H := Option.bind_eq_some_iff.mp H
  obtain ⟨t639, A40, H⟩ := H
  replace H : (if t639 = true then (galoislaw01_NaturalMachine.j0 k a0 a1 (decide ((a1.size : Int) > 1100))) else (galoislaw01_NaturalMachine.j0 k a0 a1 true)) = some r := H
  have A4 := Aside0.mk A40
  clear A40
  by_cases c5 : t639 = true
  ·subst c5
   have H1 : (galoislaw01_NaturalMachine.j0 k a0 a1 (decide ((a1.size : Int) > 1100))) = some r := by rw [if_pos rfl] at H; exact H
   clear H
   have H := H1
   clear H1
   have H' := Aside0.mk H
   clear H
   go_wp2_with (first | ((with_reducible refine gate_callee (f := 12) rfl ?_); refine goesL_ (some 12) rfl rfl Try.func12 (by kernel_rfl) rfl #[] rfl (by (try simp only [List.map_toArray, List.map_cons, List.map_nil]); first | done | rfl | (simp only [List.length_drop, List.length_take]; rfl)) ?_; (with_reducible refine (galoislaw01_awake.calls k  true _ A4.out).mono ?_); rintro e w6 ⟨rfl, hb⟩; refine ⟨_, rfl, ?_⟩; have n0_ := Aside0.mk (below_step (by repeat (first | (with_reducible first | exact HB.out | apply below_alloc | apply pw_below_drewN | apply below_drew1) | exact HB.out)) hb); clear HB; have HB := n0_; clear n0_; (try clear hb); (try clear hb2); (try clear hk); (try clear hi)))
   go_meet
   case rel => exact ⟨_, (decide ((a1.size : Int) > 1100)), (by first | rfl | (simp; done) | (simp [*]; done)), H', ⟨by first | omega | exact Nat.le_refl _⟩, ⟨by repeat (first | (with_reducible first | exact HB.out | apply below_alloc | apply pw_below_drewN | apply below_drew1) | exact HB.out)⟩⟩
  ·replace c5 := Bool.eq_false_iff.mpr c5
   subst c5
   have H1 : (galoislaw01_NaturalMachine.j0 k a0 a1 true) = some r := by rw [if_neg (show ¬ (false = true) by decide)] at H; exact H
   clear H
   have H := H1
   clear H1
   have H' := Aside0.mk H
   clear H
   go_wp2_with (first | ((with_reducible refine gate_callee (f := 12) rfl ?_); refine goesL_ (some 12) rfl rfl Try.func12 (by kernel_rfl) rfl #[] rfl (by (try simp only [List.map_toArray, List.map_cons, List.map_nil]); first | done | rfl | (simp only [List.length_drop, List.length_take]; rfl)) ?_; (with_reducible refine (galoislaw01_awake.calls k  false _ A4.out).mono ?_); rintro e w7 ⟨rfl, hb⟩; refine ⟨_, rfl, ?_⟩; have n0_ := Aside0.mk (below_step (by repeat (first | (with_reducible first | exact HB.out | apply below_alloc | apply pw_below_drewN | apply below_drew1) | exact HB.out)) hb); clear HB; have HB := n0_; clear n0_; (try clear hb); (try clear hb2); (try clear hk); (try clear hi)))
   go_meet
   case rel => exact ⟨_, (true), (by first | rfl | (simp; done) | (simp [*]; done)), H', ⟨by first | omega | exact Nat.le_refl _⟩, ⟨by repeat (first | (with_reducible first | exact HB.out | apply below_alloc | apply pw_below_drewN | apply below_drew1) | exact HB.out)⟩⟩
 case rest =>
  clear HC3
  try clear c1
  try clear p2
  try clear c5
  try clear c6
  obtain ⟨kq, x18_2, rfl, HA, HJ2, HB⟩ := hcut
  cases kq with
  | zero => exact absurd HA.out (by simp [galoislaw01_NaturalMachine.j0])
  | succ kj2 =>
   have H := HA.out
   clear HA
   simp only [galoislaw01_NaturalMachine.j0] at H
   by_cases c8 : x18_2 = true
   ·subst c8
    have H1 : ((galoislaw01_awake.f kj2).bind fun t640 => (some t640)) = some r := by rw [if_pos rfl] at H; exact H
    clear H
    have H := H1
    clear H1
    replace H := Option.bind_eq_some_iff.mp H
    obtain ⟨t640, A90, H⟩ := H
    replace H : (some t640) = some r := H
    have A9 := Aside0.mk A90
    clear A90
    obtain rfl := Option.some.inj H
    go_wp2_with (first | ((with_reducible refine gate_callee (f := 12) rfl ?_); refine goesL_ (some 19) rfl rfl Try.func12 (by kernel_rfl) rfl #[] rfl (by (try simp only [List.map_toArray, List.map_cons, List.map_nil]); first | done | rfl | (simp only [List.length_drop, List.length_take]; rfl)) ?_; (with_reducible refine (galoislaw01_awake.calls kj2  t640 _ A9.out).mono ?_); rintro e w10 ⟨rfl, hb⟩; refine ⟨_, rfl, ?_⟩; have n0_ := Aside0.mk (below_step (by repeat (first | (with_reducible first | exact HB.out | apply below_alloc | apply pw_below_drewN | apply below_drew1) | exact HB.out)) hb); clear HB; have HB := n0_; clear n0_; (try clear hb); (try clear hb2); (try clear hk); (try clear hi)))
    all_goals go_ret
    all_goals exact ⟨by first | rfl | (simp [errW_none, errW_some] <;> rfl) | (simp [*, errW_none, errW_some] <;> rfl), by repeat (first | (with_reducible first | exact HB.out | apply below_alloc | apply pw_below_drewN | apply below_drew1) | exact HB.out)⟩
   ·replace c8 := Bool.eq_false_iff.mpr c8
    subst c8
    have H1 : ((natural_Of.f a0).bind fun t641 => ((natural_Uint.f kj2 t641).bind fun bt642 => ((natural_Uint.f kj2 a1).bind fun bt644 => ((natural_Of.f a0).bind fun t646 => ((galoisref01_Of.f kj2 a0).bind fun t647 => (if t646.toList = t647.toList then (if bt642.1 = a0 then (galoislaw01_NaturalMachine.j1 kj2 a1 bt644.1 bt644.2 (bt642.2 != 0)) else (galoislaw01_NaturalMachine.j1 kj2 a1 bt644.1 bt644.2 true)) else (galoislaw01_NaturalMachine.j1 kj2 a1 bt644.1 bt644.2 true))))))) = some r := by rw [if_neg (show ¬ (false = true) by decide)] at H; exact H
    clear H
    have H := H1
    clear H1
    replace H := Option.bind_eq_some_iff.mp H
    obtain ⟨t641, A110, H⟩ := H
    replace H : ((natural_Uint.f kj2 t641).bind fun bt642 => ((natural_Uint.f kj2 a1).bind fun bt644 => ((natural_Of.f a0).bind fun t646 => ((galoisref01_Of.f kj2 a0).bind fun t647 => (if t646.toList = t647.toList then (if bt642.1 = a0 then (galoislaw01_NaturalMachine.j1 kj2 a1 bt644.1 bt644.2 (bt642.2 != 0)) else (galoislaw01_NaturalMachine.j1 kj2 a1 bt644.1 bt644.2 true)) else (galoislaw01_NaturalMachine.j1 kj2 a1 bt644.1 bt644.2 true)))))) = some r := H
    have A11 := Aside0.mk A110
    clear A110
    replace H := Option.bind_eq_some_iff.mp H
    obtain ⟨⟨t642, t643⟩, A120, H⟩ := H
    replace H : ((natural_Uint.f kj2 a1).bind fun bt644 => ((natural_Of.f a0).bind fun t646 => ((galoisref01_Of.f kj2 a0).bind fun t647 => (if t646.toList = t647.toList then (if t642 = a0 then (galoislaw01_NaturalMachine.j1 kj2 a1 bt644.1 bt644.2 (t643 != 0)) else (galoislaw01_NaturalMachine.j1 kj2 a1 bt644.1 bt644.2 true)) else (galoislaw01_NaturalMachine.j1 kj2 a1 bt644.1 bt644.2 true))))) = some r := H
    have A12 := Aside0.mk A120
    clear A120
    replace H := Option.bind_eq_some_iff.mp H
    obtain ⟨⟨t644, t645⟩, A130, H⟩ := H
    replace H : ((natural_Of.f a0).bind fun t646 => ((galoisref01_Of.f kj2 a0).bind fun t647 => (if t646.toList = t647.toList then (if t642 = a0 then (galoislaw01_NaturalMachine.j1 kj2 a1 t644 t645 (t643 != 0)) else (galoislaw01_NaturalMachine.j1 kj2 a1 t644 t645 true)) else (galoislaw01_NaturalMachine.j1 kj2 a1 t644 t645 true)))) = some r := H
    have A13 := Aside0.mk A130
    clear A130
    have HC14 := Aside0.mk H
    clear H
    go_upto_region 5 with (first | ((with_reducible refine gate_callee (f := 30) rfl ?_); refine goesL_ (some 22) rfl rfl Try.func30 (by kernel_rfl) rfl #[.int .u64 a0] rfl (by (try simp only [List.map_toArray, List.map_cons, List.map_nil]); first | done | rfl | (simp only [List.length_drop, List.length_take]; rfl)) ?_; (with_reducible refine (natural_Of.calls a0 t641 _ A11.out).mono ?_); rintro e w15 ⟨rfl, hb⟩; refine ⟨_, rfl, ?_⟩; have n0_ := Aside0.mk (below_step (by repeat (first | (with_reducible first | exact HB.out | apply below_alloc | apply pw_below_drewN | apply below_drew1) | exact HB.out)) hb); clear HB; have HB := n0_; clear n0_; (try clear hb); (try clear hb2); (try clear hk); (try clear hi)) | ((with_reducible refine gate_callee (f := 32) rfl ?_); refine goesL_ (some 23) rfl rfl Try.func32 (by kernel_rfl) rfl #[.string t641] rfl (by (try simp only [List.map_toArray, List.map_cons, List.map_nil]); first | done | rfl | (simp only [List.length_drop, List.length_take]; rfl)) ?_; (with_reducible refine (natural_Uint.calls kj2 t641 t642 t643 _ A12.out).mono ?_); rintro e w16 ⟨rfl, hb⟩; refine ⟨_, rfl, ?_⟩; have n0_ := Aside0.mk (below_step (by repeat (first | (with_reducible first | exact HB.out | apply below_alloc | apply pw_below_drewN | apply below_drew1) | exact HB.out)) hb); clear HB; have HB := n0_; clear n0_; (try clear hb); (try clear hb2); (try clear hk); (try clear hi)) | ((with_reducible refine gate_callee (f := 32) rfl ?_); refine goesL_ (some 28) rfl rfl Try.func32 (by kernel_rfl) rfl #[.string a1] rfl (by (try simp only [List.map_toArray, List.map_cons, List.map_nil]); first | done | rfl | (simp only [List.length_drop, List.length_take]; rfl)) ?_; (with_reducible refine (natural_Uint.calls kj2 a1 t644 t645 _ A13.out).mono ?_); rintro e w17 ⟨rfl, hb⟩; refine ⟨_, rfl, ?_⟩; have n0_ := Aside0.mk (below_step (by repeat (first | (with_reducible first | exact HB.out | apply below_alloc | apply pw_below_drewN | apply below_drew1) | exact HB.out)) hb); clear HB; have HB := n0_; clear n0_; (try clear hb); (try clear hb2); (try clear hk); (try clear hi)))
    (try simp only [Act.put, List.setIfInBounds_toArray, List.set_cons_zero, List.set_cons_succ])
    go_cut [44] (fun v44 wc => ∃ (kq : Nat) (x44_13 : Bool), v44 = .bool x44_13 ∧ Aside0 (galoislaw01_NaturalMachine.j1 kq a1 t644 t645 x44_13 = some r) ∧ Aside0 (kq ≤ kj2) ∧ Aside0 (Below w.heap.size w wc))
    case first =>
     have H := HC14.out
     clear HC14
     replace H := Option.bind_eq_some_iff.mp H
     obtain ⟨t646, A180, H⟩ := H
     replace H : ((galoisref01_Of.f kj2 a0).bind fun t647 => (if t646.toList = t647.toList then (if t642 = a0 then (galoislaw01_NaturalMachine.j1 kj2 a1 t644 t645 (t643 != 0)) else (galoislaw01_NaturalMachine.j1 kj2 a1 t644 t645 true)) else (galoislaw01_NaturalMachine.j1 kj2 a1 t644 t645 true))) = some r := H
     have A18 := Aside0.mk A180
     clear A180
     obtain rfl : t641 = t646 := Option.some.inj (A11.out.symm.trans A18.out)
     replace H := Option.bind_eq_some_iff.mp H
     obtain ⟨t647, A190, H⟩ := H
     replace H : (if t641.toList = t647.toList then (if t642 = a0 then (galoislaw01_NaturalMachine.j1 kj2 a1 t644 t645 (t643 != 0)) else (galoislaw01_NaturalMachine.j1 kj2 a1 t644 t645 true)) else (galoislaw01_NaturalMachine.j1 kj2 a1 t644 t645 true)) = some r := H
     have A19 := Aside0.mk A190
     clear A190
     by_cases c20 : t641.toList = t647.toList
     ·rw [if_pos c20] at H
      have c20b0 : (t641.toList == t647.toList) = true := beq_iff_eq.mpr c20
      have c20b1 : (t641.toList != t647.toList) = false := bne_eq_false_iff_eq.mpr c20
      clear c20
      (first | rw [c20b0] | rw [c20b1] | (simp only [i64_w, i32_w]; rw [c20b0]) | skip)
      by_cases c21 : t642 = a0
      ·rw [if_pos c21] at H
       have c21b0 : (t642 == a0) = true := beq_iff_eq.mpr c21
       have c21b1 : (t642 != a0) = false := bne_eq_false_iff_eq.mpr c21
       clear c21
       have H' := Aside0.mk H
       clear H
       go_wp2_with (first | ((with_reducible refine gate_callee (f := 30) rfl ?_); refine goesL_ (some 32) rfl rfl Try.func30 (by kernel_rfl) rfl #[.int .u64 a0] rfl (by (try simp only [List.map_toArray, List.map_cons, List.map_nil]); first | done | rfl | (simp only [List.length_drop, List.length_take]; rfl)) ?_; (with_reducible refine (natural_Of.calls a0 t641 _ A18.out).mono ?_); rintro e w22 ⟨rfl, hb⟩; refine ⟨_, rfl, ?_⟩; have n0_ := Aside0.mk (below_step (by repeat (first | (with_reducible first | exact HB.out | apply below_alloc | apply pw_below_drewN | apply below_drew1) | exact HB.out)) hb); clear HB; have HB := n0_; clear n0_; (try clear hb); (try clear hb2); (try clear hk); (try clear hi)) | ((with_reducible refine gate_callee (f := 33) rfl ?_); refine goesL_ (some 34) rfl rfl Try.func33 (by kernel_rfl) rfl #[.int .u64 a0] rfl (by (try simp only [List.map_toArray, List.map_cons, List.map_nil]); first | done | rfl | (simp only [List.length_drop, List.length_take]; rfl)) ?_; (with_reducible refine (galoisref01_Of.calls kj2 a0 t647 _ A19.out).mono ?_); rintro e w23 ⟨rfl, hb⟩; refine ⟨_, rfl, ?_⟩; have n0_ := Aside0.mk (below_step (by repeat (first | (with_reducible first | exact HB.out | apply below_alloc | apply pw_below_drewN | apply below_drew1) | exact HB.out)) hb); clear HB; have HB := n0_; clear n0_; (try clear hb); (try clear hb2); (try clear hk); (try clear hi)))
       go_meet
       case rel => exact ⟨_, ((t643 != 0)), (by first | rfl | (simp; done) | (simp [*]; done)), H', ⟨by have := HJ2.out; first | omega | exact Nat.le_refl _⟩, ⟨by repeat (first | (with_reducible first | exact HB.out | apply below_alloc | apply pw_below_drewN | apply below_drew1) | exact HB.out)⟩⟩
      ·rw [if_neg c21] at H
       have c21b0 : (t642 == a0) = false := beq_eq_false_iff_ne.mpr c21
       have c21b1 : (t642 != a0) = true := bne_iff_ne.mpr c21
       have H' := Aside0.mk H
       clear H
       go_wp2_with (first | ((with_reducible refine gate_callee (f := 30) rfl ?_); refine goesL_ (some 32) rfl rfl Try.func30 (by kernel_rfl) rfl #[.int .u64 a0] rfl (by (try simp only [List.map_toArray, List.map_cons, List.map_nil]); first | done | rfl | (simp only [List.length_drop, List.length_take]; rfl)) ?_; (with_reducible refine (natural_Of.calls a0 t641 _ A18.out).mono ?_); rintro e w24 ⟨rfl, hb⟩; refine ⟨_, rfl, ?_⟩; have n0_ := Aside0.mk (below_step (by repeat (first | (with_reducible first | exact HB.out | apply below_alloc | apply pw_below_drewN | apply below_drew1) | exact HB.out)) hb); clear HB; have HB := n0_; clear n0_; (try clear hb); (try clear hb2); (try clear hk); (try clear hi)) | ((with_reducible refine gate_callee (f := 33) rfl ?_); refine goesL_ (some 34) rfl rfl Try.func33 (by kernel_rfl) rfl #[.int .u64 a0] rfl (by (try simp only [List.map_toArray, List.map_cons, List.map_nil]); first | done | rfl | (simp only [List.length_drop, List.length_take]; rfl)) ?_; (with_reducible refine (galoisref01_Of.calls kj2 a0 t647 _ A19.out).mono ?_); rintro e w25 ⟨rfl, hb⟩; refine ⟨_, rfl, ?_⟩; have n0_ := Aside0.mk (below_step (by repeat (first | (with_reducible first | exact HB.out | apply below_alloc | apply pw_below_drewN | apply below_drew1) | exact HB.out)) hb); clear HB; have HB := n0_; clear n0_; (try clear hb); (try clear hb2); (try clear hk); (try clear hi)))
       go_meet
       case rel => exact ⟨_, (true), (by first | rfl | (simp; done) | (simp [*]; done)), H', ⟨by have := HJ2.out; first | omega | exact Nat.le_refl _⟩, ⟨by repeat (first | (with_reducible first | exact HB.out | apply below_alloc | apply pw_below_drewN | apply below_drew1) | exact HB.out)⟩⟩
     ·rw [if_neg c20] at H
      have c20b0 : (t641.toList == t647.toList) = false := beq_eq_false_iff_ne.mpr c20
      have c20b1 : (t641.toList != t647.toList) = true := bne_iff_ne.mpr c20
      (first | rw [c20b0] | rw [c20b1] | (simp only [i64_w, i32_w]; rw [c20b0]) | skip)
      have H' := Aside0.mk H
      clear H
      go_wp2_with (first | ((with_reducible refine gate_callee (f := 30) rfl ?_); refine goesL_ (some 32) rfl rfl Try.func30 (by kernel_rfl) rfl #[.int .u64 a0] rfl (by (try simp only [List.map_toArray, List.map_cons, List.map_nil]); first | done | rfl | (simp only [List.length_drop, List.length_take]; rfl)) ?_; (with_reducible refine (natural_Of.calls a0 t641 _ A18.out).mono ?_); rintro e w26 ⟨rfl, hb⟩; refine ⟨_, rfl, ?_⟩; have n0_ := Aside0.mk (below_step (by repeat (first | (with_reducible first | exact HB.out | apply below_alloc | apply pw_below_drewN | apply below_drew1) | exact HB.out)) hb); clear HB; have HB := n0_; clear n0_; (try clear hb); (try clear hb2); (try clear hk); (try clear hi)) | ((with_reducible refine gate_callee (f := 33) rfl ?_); refine goesL_ (some 34) rfl rfl Try.func33 (by kernel_rfl) rfl #[.int .u64 a0] rfl (by (try simp only [List.map_toArray, List.map_cons, List.map_nil]); first | done | rfl | (simp only [List.length_drop, List.length_take]; rfl)) ?_; (with_reducible refine (galoisref01_Of.calls kj2 a0 t647 _ A19.out).mono ?_); rintro e w27 ⟨rfl, hb⟩; refine ⟨_, rfl, ?_⟩; have n0_ := Aside0.mk (below_step (by repeat (first | (with_reducible first | exact HB.out | apply below_alloc | apply pw_below_drewN | apply below_drew1) | exact HB.out)) hb); clear HB; have HB := n0_; clear n0_; (try clear hb); (try clear hb2); (try clear hk); (try clear hi)))
      go_meet
      case rel => exact ⟨_, (true), (by first | rfl | (simp; done) | (simp [*]; done)), H', ⟨by have := HJ2.out; first | omega | exact Nat.le_refl _⟩, ⟨by repeat (first | (with_reducible first | exact HB.out | apply below_alloc | apply pw_below_drewN | apply below_drew1) | exact HB.out)⟩⟩
    case rest =>
     clear HC14
     try clear c1
     try clear c2
     try clear p2
     try clear c3
     try clear c5
     try clear c6
     try clear c8
     try clear c12
     try clear c20
     try clear c20b0
     try clear c20b1
     try clear c21
     try clear c21b0
     try clear c21b1
     try clear p2
     obtain ⟨kq, x44_13, rfl, HA, HJ13, HB⟩ := hcut
     cases kq with
     | zero => exact absurd HA.out (by simp [galoislaw01_NaturalMachine.j1])
     | succ kj13 =>
      have H := HA.out
      clear HA
      simp only [galoislaw01_NaturalMachine.j1] at H
      by_cases c28 : x44_13 = true
      ·subst c28
       have H1 : (some false) = some r := by rw [if_pos rfl] at H; exact H
       clear H
       have H := H1
       clear H1
       obtain rfl := Option.some.inj H
       go_wp2
       all_goals go_ret
       all_goals exact ⟨by first | rfl | (simp [errW_none, errW_some] <;> rfl) | (simp [*, errW_none, errW_some] <;> rfl), by repeat (first | (with_reducible first | exact HB.out | apply below_alloc | apply pw_below_drewN | apply below_drew1) | exact HB.out)⟩
      ·replace c28 := Bool.eq_false_iff.mpr c28
       subst c28
       have H1 : ((galoisref01_Check.f a1).bind fun t648 => ((galoisref01_Uint.f kj13 a1).bind fun bt649 => (if t648 = 0 then (galoislaw01_NaturalMachine.j2 kj13 a1 t644 t645 t648 bt649.1 (!bt649.2)) else (galoislaw01_NaturalMachine.j2 kj13 a1 t644 t645 t648 bt649.1 false)))) = some r := by rw [if_neg (show ¬ (false = true) by decide)] at H; exact H
       clear H
       have H := H1
       clear H1
       replace H := Option.bind_eq_some_iff.mp H
       obtain ⟨t648, A290, H⟩ := H
       replace H : ((galoisref01_Uint.f kj13 a1).bind fun bt649 => (if t648 = 0 then (galoislaw01_NaturalMachine.j2 kj13 a1 t644 t645 t648 bt649.1 (!bt649.2)) else (galoislaw01_NaturalMachine.j2 kj13 a1 t644 t645 t648 bt649.1 false))) = some r := H
       have A29 := Aside0.mk A290
       clear A290
       replace H := Option.bind_eq_some_iff.mp H
       obtain ⟨⟨t649, t650⟩, A300, H⟩ := H
       replace H : (if t648 = 0 then (galoislaw01_NaturalMachine.j2 kj13 a1 t644 t645 t648 t649 (!t650)) else (galoislaw01_NaturalMachine.j2 kj13 a1 t644 t645 t648 t649 false)) = some r := H
       have A30 := Aside0.mk A300
       clear A300
       have HC31 := Aside0.mk H
       clear H
       go_upto_region 9 with (first | ((with_reducible refine gate_callee (f := 24) rfl ?_); refine goesL_ (some 46) rfl rfl Try.func24 (by kernel_rfl) rfl #[.string a1] rfl (by (try simp only [List.map_toArray, List.map_cons, List.map_nil]); first | done | rfl | (simp only [List.length_drop, List.length_take]; rfl)) ?_; (with_reducible refine (galoisref01_Check.calls a1 t648 _ A29.out).mono ?_); rintro e w' ⟨rfl, ⟨nd, rfl⟩⟩; refine ⟨_, rfl, ?_⟩) | ((with_reducible refine gate_callee (f := 34) rfl ?_); refine goesL_ (some 49) rfl rfl Try.func34 (by kernel_rfl) rfl #[.string a1] rfl (by (try simp only [List.map_toArray, List.map_cons, List.map_nil]); first | done | rfl | (simp only [List.length_drop, List.length_take]; rfl)) ?_; (with_reducible refine (galoisref01_Uint.calls kj13 a1 t649 t650 _ A30.out).mono ?_); rintro e w' ⟨rfl, ⟨nd, rfl⟩⟩; refine ⟨_, rfl, ?_⟩))
       (try simp only [Act.put, List.setIfInBounds_toArray, List.set_cons_zero, List.set_cons_succ])
       go_cut [57] (fun v57 wc => ∃ (kq : Nat) (x57_30 : Bool), v57 = .bool x57_30 ∧ Aside0 (galoislaw01_NaturalMachine.j2 kq a1 t644 t645 t648 t649 x57_30 = some r) ∧ Aside0 (kq ≤ kj13) ∧ Aside0 (Below w.heap.size w wc))
       case first =>
        have H := HC31.out
        clear HC31
        by_cases c32 : t648 = 0
        ·rw [if_pos c32] at H
         have c32b0 : (t648 == 0) = true := beq_iff_eq.mpr c32
         have c32b1 : (t648 != 0) = false := bne_eq_false_iff_eq.mpr c32
         clear c32
         (first | rw [c32b0] | rw [c32b1] | (simp only [i64_w, i32_w]; rw [c32b0]) | skip)
         have H' := Aside0.mk H
         clear H
         go_wp2
         go_meet
         case rel => exact ⟨_, (!t650), (by first | rfl | (simp; done) | (simp [*]; done)), H', ⟨by have := HJ2.out; have := HJ13.out; first | omega | exact Nat.le_refl _⟩, ⟨by repeat (first | (with_reducible first | exact HB.out | apply below_alloc | apply pw_below_drewN | apply below_drew1) | exact HB.out)⟩⟩
        ·rw [if_neg c32] at H
         have c32b0 : (t648 == 0) = false := beq_eq_false_iff_ne.mpr c32
         have c32b1 : (t648 != 0) = true := bne_iff_ne.mpr c32
         (first | rw [c32b0] | rw [c32b1] | (simp only [i64_w, i32_w]; rw [c32b0]) | skip)
         have H' := Aside0.mk H
         clear H
         go_wp2
         go_meet
         case rel => exact ⟨_, (false), (by first | rfl | (simp; done) | (simp [*]; done)), H', ⟨by have := HJ2.out; have := HJ13.out; first | omega | exact Nat.le_refl _⟩, ⟨by repeat (first | (with_reducible first | exact HB.out | apply below_alloc | apply pw_below_drewN | apply below_drew1) | exact HB.out)⟩⟩
       case rest =>
        clear HC31
        try clear c1
        try clear c2
        try clear p2
        try clear c3
        try clear c5
        try clear c6
        try clear c8
        try clear c12
        try clear c20
        try clear c20b0
        try clear c20b1
        try clear c21
        try clear c21b0
        try clear c21b1
        try clear c24
        try clear c28
        try clear c30
        try clear c32
        try clear c32b0
        try clear c32b1
        try clear p2
        obtain ⟨kq, x57_30, rfl, HA, HJ30, HB⟩ := hcut
        cases kq with
        | zero => exact absurd HA.out (by simp [galoislaw01_NaturalMachine.j2])
        | succ kj30 =>
         have H := HA.out
         clear HA
         simp only [galoislaw01_NaturalMachine.j2] at H
         by_cases c33 : x57_30 = true
         ·subst c33
          have H1 : (if 3 = 0 then (if t644 = t649 then (if t645 = 0 then ((natural_Of.f t644).bind fun t651 => (some (t651.toList == a1.toList))) else (some false)) else (some false)) else (if t644 = 0 then (some (t645 == 3)) else (some false))) = some r := by rw [if_pos rfl] at H; exact H
          clear H
          have H := H1
          clear H1
          by_cases c34 : 3 = 0
          ·rw [if_pos c34] at H
           have c34b0 : (3 == 0) = true := beq_iff_eq.mpr c34
           have c34b1 : (3 != 0) = false := bne_eq_false_iff_eq.mpr c34
           clear c34
           by_cases c35 : t644 = t649
           ·rw [if_pos c35] at H
            have c35b0 : (t644 == t649) = true := beq_iff_eq.mpr c35
            have c35b1 : (t644 != t649) = false := bne_eq_false_iff_eq.mpr c35
            clear c35
            by_cases c36 : t645 = 0
            ·rw [if_pos c36] at H
             have c36b0 : (t645 == 0) = true := beq_iff_eq.mpr c36
             have c36b1 : (t645 != 0) = false := bne_eq_false_iff_eq.mpr c36
             clear c36
             replace H := Option.bind_eq_some_iff.mp H
             obtain ⟨t651, A370, H⟩ := H
             replace H : (some (t651.toList == a1.toList)) = some r := H
             have A37 := Aside0.mk A370
             clear A370
             obtain rfl := Option.some.inj H
             go_wp2_with (first | (go_at_call 30; (with_reducible refine (natural_Of.calls t644 t651 _ A37.out).mono ?_); rintro e w38 ⟨rfl, hb⟩; have n0_ := Aside0.mk (below_step (by repeat (first | (with_reducible first | exact HB.out | apply below_alloc | apply pw_below_drewN | apply below_drew1) | exact HB.out)) hb); clear HB; have HB := n0_; clear n0_; (try clear hb); (try clear hb2); (try clear hk); (try clear hi)))
             all_goals go_ret
             all_goals exact ⟨by first | rfl | (simp [errW_none, errW_some] <;> rfl) | (simp [*, errW_none, errW_some] <;> rfl), by repeat (first | (with_reducible first | exact HB.out | apply below_alloc | apply pw_below_drewN | apply below_drew1) | exact HB.out)⟩
            ·rw [if_neg c36] at H
             have c36b0 : (t645 == 0) = false := beq_eq_false_iff_ne.mpr c36
             have c36b1 : (t645 != 0) = true := bne_iff_ne.mpr c36
             obtain rfl := Option.some.inj H
             go_wp2
             all_goals go_ret
             all_goals exact ⟨by first | rfl | (simp [errW_none, errW_some] <;> rfl) | (simp [*, errW_none, errW_some] <;> rfl), by repeat (first | (with_reducible first | exact HB.out | apply below_alloc | apply pw_below_drewN | apply below_drew1) | exact HB.out)⟩
           ·rw [if_neg c35] at H
            have c35b0 : (t644 == t649) = false := beq_eq_false_iff_ne.mpr c35
            have c35b1 : (t644 != t649) = true := bne_iff_ne.mpr c35
            obtain rfl := Option.some.inj H
            go_wp2
            all_goals go_ret
            all_goals exact ⟨by first | rfl | (simp [errW_none, errW_some] <;> rfl) | (simp [*, errW_none, errW_some] <;> rfl), by repeat (first | (with_reducible first | exact HB.out | apply below_alloc | apply pw_below_drewN | apply below_drew1) | exact HB.out)⟩
          ·rw [if_neg c34] at H
           have c34b0 : (3 == 0) = false := beq_eq_false_iff_ne.mpr c34
           have c34b1 : (3 != 0) = true := bne_iff_ne.mpr c34
           by_cases c39 : t644 = 0
           ·rw [if_pos c39] at H
            have c39b0 : (t644 == 0) = true := beq_iff_eq.mpr c39
            have c39b1 : (t644 != 0) = false := bne_eq_false_iff_eq.mpr c39
            clear c39
            obtain rfl := Option.some.inj H
            go_wp2
            all_goals go_ret
            all_goals exact ⟨by first | rfl | (simp [errW_none, errW_some] <;> rfl) | (simp [*, errW_none, errW_some] <;> rfl), by repeat (first | (with_reducible first | exact HB.out | apply below_alloc | apply pw_below_drewN | apply below_drew1) | exact HB.out)⟩
           ·rw [if_neg c39] at H
            have c39b0 : (t644 == 0) = false := beq_eq_false_iff_ne.mpr c39
            have c39b1 : (t644 != 0) = true := bne_iff_ne.mpr c39
            obtain rfl := Option.some.inj H
            go_wp2
            all_goals go_ret
            all_goals exact ⟨by first | rfl | (simp [errW_none, errW_some] <;> rfl) | (simp [*, errW_none, errW_some] <;> rfl), by repeat (first | (with_reducible first | exact HB.out | apply below_alloc | apply pw_below_drewN | apply below_drew1) | exact HB.out)⟩
         ·replace c33 := Bool.eq_false_iff.mpr c33
          subst c33
          have H1 : (if t648 = 0 then (if t644 = t649 then (if t645 = 0 then ((natural_Of.f t644).bind fun t652 => (some (t652.toList == a1.toList))) else (some false)) else (some false)) else (if t644 = 0 then (some (t645 == t648)) else (some false))) = some r := by rw [if_neg (show ¬ (false = true) by decide)] at H; exact H
          clear H
          have H := H1
          clear H1
          by_cases c40 : t648 = 0
          ·rw [if_pos c40] at H
           have c40b0 : (t648 == 0) = true := beq_iff_eq.mpr c40
           have c40b1 : (t648 != 0) = false := bne_eq_false_iff_eq.mpr c40
           clear c40
           by_cases c41 : t644 = t649
           ·rw [if_pos c41] at H
            have c41b0 : (t644 == t649) = true := beq_iff_eq.mpr c41
            have c41b1 : (t644 != t649) = false := bne_eq_false_iff_eq.mpr c41
            clear c41
            by_cases c42 : t645 = 0
            ·rw [if_pos c42] at H
             have c42b0 : (t645 == 0) = true := beq_iff_eq.mpr c42
             have c42b1 : (t645 != 0) = false := bne_eq_false_iff_eq.mpr c42
             clear c42
             replace H := Option.bind_eq_some_iff.mp H
             obtain ⟨t652, A430, H⟩ := H
             replace H : (some (t652.toList == a1.toList)) = some r := H
             have A43 := Aside0.mk A430
             clear A430
             obtain rfl := Option.some.inj H
             go_wp2_with (first | (go_at_call 30; (with_reducible refine (natural_Of.calls t644 t652 _ A43.out).mono ?_); rintro e w44 ⟨rfl, hb⟩; have n0_ := Aside0.mk (below_step (by repeat (first | (with_reducible first | exact HB.out | apply below_alloc | apply pw_below_drewN | apply below_drew1) | exact HB.out)) hb); clear HB; have HB := n0_; clear n0_; (try clear hb); (try clear hb2); (try clear hk); (try clear hi)))
             all_goals go_ret
             all_goals exact ⟨by first | rfl | (simp [errW_none, errW_some] <;> rfl) | (simp [*, errW_none, errW_some] <;> rfl), by repeat (first | (with_reducible first | exact HB.out | apply below_alloc | apply pw_below_drewN | apply below_drew1) | exact HB.out)⟩
            ·rw [if_neg c42] at H
             have c42b0 : (t645 == 0) = false := beq_eq_false_iff_ne.mpr c42
             have c42b1 : (t645 != 0) = true := bne_iff_ne.mpr c42
             obtain rfl := Option.some.inj H
             go_wp2
             all_goals go_ret
             all_goals exact ⟨by first | rfl | (simp [errW_none, errW_some] <;> rfl) | (simp [*, errW_none, errW_some] <;> rfl), by repeat (first | (with_reducible first | exact HB.out | apply below_alloc | apply pw_below_drewN | apply below_drew1) | exact HB.out)⟩
           ·rw [if_neg c41] at H
            have c41b0 : (t644 == t649) = false := beq_eq_false_iff_ne.mpr c41
            have c41b1 : (t644 != t649) = true := bne_iff_ne.mpr c41
            obtain rfl := Option.some.inj H
            go_wp2
            all_goals go_ret
            all_goals exact ⟨by first | rfl | (simp [errW_none, errW_some] <;> rfl) | (simp [*, errW_none, errW_some] <;> rfl), by repeat (first | (with_reducible first | exact HB.out | apply below_alloc | apply pw_below_drewN | apply below_drew1) | exact HB.out)⟩
          ·rw [if_neg c40] at H
           have c40b0 : (t648 == 0) = false := beq_eq_false_iff_ne.mpr c40
           have c40b1 : (t648 != 0) = true := bne_iff_ne.mpr c40
           by_cases c45 : t644 = 0
           ·rw [if_pos c45] at H
            have c45b0 : (t644 == 0) = true := beq_iff_eq.mpr c45
            have c45b1 : (t644 != 0) = false := bne_eq_false_iff_eq.mpr c45
            clear c45
            obtain rfl := Option.some.inj H
            go_wp2
            all_goals go_ret
            all_goals exact ⟨by first | rfl | (simp [errW_none, errW_some] <;> rfl) | (simp [*, errW_none, errW_some] <;> rfl), by repeat (first | (with_reducible first | exact HB.out | apply below_alloc | apply pw_below_drewN | apply below_drew1) | exact HB.out)⟩
           ·rw [if_neg c45] at H
            have c45b0 : (t644 == 0) = false := beq_eq_false_iff_ne.mpr c45
            have c45b1 : (t644 != 0) = true := bne_iff_ne.mpr c45
            obtain rfl := Option.some.inj H
            go_wp2
            all_goals go_ret
            all_goals exact ⟨by first | rfl | (simp [errW_none, errW_some] <;> rfl) | (simp [*, errW_none, errW_some] <;> rfl), by repeat (first | (with_reducible first | exact HB.out | apply below_alloc | apply pw_below_drewN | apply below_drew1) | exact HB.out)⟩
def galoislaw01_NaturalMachine.Pure : Prop := ∀ (a0 : Int) (a1 : ByteArray), (Lit.int .u64 a0).wf = true → a1.size ≤ 140737488351232 → ∃ k, galoislaw01_NaturalMachine.f k a0 a1 = some true
theorem galoislaw01_NaturalMachine.walk (P : galoislaw01_NaturalMachine.Pure) (a0 : Int) (a1 : ByteArray) (w : World) (w0 : (Lit.int .u64 a0).wf = true) (w1 : a1.size ≤ 140737488351232) :
  Calls Try.prog 6 #[.int .u64 a0, .string a1] w fun e w' => e = .returned (.bool true) ∧ Below w.heap.size w w' := by
 obtain ⟨k, h⟩ := P a0 a1 w0 w1
 refine (galoislaw01_NaturalMachine.calls k a0 a1 true w h).mono ?_
 rintro e w' ⟨rfl, hd⟩
 exact ⟨rfl, hd⟩
end Go.Proofs.Ytohkmnbnjacfaaa.All
namespace Go.Proofs.Ytohkmnbnjacfaaa.All
open Go.Proofs.YtohkmnbnjacfaaaX
open Go.RowKit Go.Proofs.YtohkmnbnjacfaaaW.PrintWords Go.Proofs.YtohkmnbnjacfaaaW.PrintLast Go.Proofs.YtohkmnbnjacfaaaW.PrintMore
attribute [local go_sem] max2_int min2_int max_two min_two max_three min_three max_four min_four
set_option linter.unusedVariables false
set_option linter.unusedSimpArgs false
end Go.Proofs.Ytohkmnbnjacfaaa.All
set_option linter.unusedVariables false
namespace Go.Proofs.YtohkmnbnjacfaaaN
open Go.Proofs.YtohkmnbnjacfaaaW.PrintWords
def vB (B : Int) : List Int → Int
  | [] => 0
  | x :: xs => x + B * vB B xs
def Dig (B : Int) (l : List Int) : Prop := ∀ x, x ∈ l → 0 ≤ x ∧ x < B
def Trim (l : List Int) : Prop := 0 < l.length → rd l (l.length - 1 : Nat) ≠ 0
theorem vB_cons (B x : Int) (xs : List Int) : vB B (x :: xs) = x + B * vB B xs := rfl
theorem Dig_nil (B : Int) : Dig B [] := fun _ h => absurd h (List.not_mem_nil)
theorem Dig_cons {B x : Int} {xs : List Int} : Dig B (x :: xs) ↔ (0 ≤ x ∧ x < B) ∧ Dig B xs := by
  constructor
  · intro h
    exact ⟨h x (List.mem_cons_self), fun y hy => h y (List.mem_cons_of_mem _ hy)⟩
  · rintro ⟨h1, h2⟩ y hy
    rcases List.mem_cons.1 hy with rfl | hy
    · exact h1
    · exact h2 y hy
theorem Dig_take {B : Int} {xs : List Int} (h : Dig B xs) (n : Nat) : Dig B (xs.take n) := fun z hz => h z (List.mem_of_mem_take hz)
theorem Dig_drop {B : Int} {xs : List Int} (h : Dig B xs) (n : Nat) : Dig B (xs.drop n) := fun z hz => h z (List.mem_of_mem_drop hz)
theorem Dig_set {B : Int} {xs : List Int} (h : Dig B xs) (n : Nat) {v : Int} (h0 : 0 ≤ v) (h1 : v < B) : Dig B (xs.set n v) := by
  intro z hz
  rcases List.mem_or_eq_of_mem_set hz with hz | rfl
  · exact h z hz
  · exact ⟨h0, h1⟩
theorem Dig_reverse {B : Int} {xs : List Int} (h : Dig B xs) : Dig B xs.reverse := fun z hz => h z (List.mem_reverse.1 hz)
theorem rd_nat (xs : List Int) (n : Nat) : rd xs (n : Int) = xs.getD n 0 := by simp [rd]
theorem rd_get (xs : List Int) (n : Nat) (h : n < xs.length) : rd xs (n : Int) = xs[n] := by
  rw [rd_nat, List.getD_eq_getElem?_getD, List.getElem?_eq_getElem h]
  rfl
theorem Dig_rd {B : Int} {xs : List Int} (h : Dig B xs) (n : Nat) (hn : n < xs.length) : 0 ≤ rd xs (n : Int) ∧ rd xs (n : Int) < B := by
  rw [rd_get xs n hn]
  exact h _ (List.getElem_mem hn)
theorem vB_append (B : Int) (xs ys : List Int) : vB B (xs ++ ys) = vB B xs + B ^ xs.length * vB B ys := by
  induction xs with
  | nil => simp [vB]
  | cons x xs ih =>
    rw [List.cons_append, vB_cons, ih, vB_cons, List.length_cons, Int.pow_succ, Int.mul_add, ← Int.add_assoc, ← Int.mul_assoc, Int.mul_comm B (B ^ xs.length)]
theorem vB_nonneg {B : Int} (hB : 0 ≤ B) {l : List Int} (h : Dig B l) : 0 ≤ vB B l := by
  induction l with
  | nil => exact Int.le_refl _
  | cons x xs ih =>
    have := Dig_cons.1 h
    rw [vB_cons]
    exact Int.add_nonneg this.1.1 (Int.mul_nonneg hB (ih this.2))
theorem vB_lt {B : Int} (hB : 0 < B) {l : List Int} (h : Dig B l) : vB B l < B ^ l.length := by
  induction l with
  | nil => simp [vB]
  | cons x xs ih =>
    have hd := Dig_cons.1 h
    have h1 := ih hd.2
    rw [vB_cons, List.length_cons, Int.pow_succ, Int.mul_comm (B ^ xs.length) B]
    have h2 : B * (vB B xs + 1) ≤ B * B ^ xs.length := Int.mul_le_mul_of_nonneg_left (by omega) (by omega)
    rw [Int.mul_add, Int.mul_one] at h2
    omega
theorem vB_split (B : Int) (l : List Int) (n : Nat) (h : n ≤ l.length) : vB B l = vB B (l.take n) + B ^ n * vB B (l.drop n) := by
  conv => lhs; rw [← List.take_append_drop n l]
  rw [vB_append, List.length_take, Nat.min_eq_left h]
theorem vB_take_succ (B : Int) (l : List Int) (n : Nat) (h : n < l.length) : vB B (l.take (n + 1)) = vB B (l.take n) + B ^ n * rd l (n : Int) := by
  rw [List.take_succ_eq_append_getElem h, vB_append, List.length_take, Nat.min_eq_left (by omega), rd_get l n h]
  simp [vB]
theorem vB_set (B : Int) (l : List Int) (n : Nat) (v : Int) (h : n < l.length) : vB B (l.set n v) = vB B l + B ^ n * (v - rd l (n : Int)) := by
  induction l generalizing n with
  | nil => simp at h
  | cons x xs ih =>
    cases n with
    | zero => simp [vB, rd]; omega
    | succ n =>
      have h' : n < xs.length := by simpa using h
      rw [List.set_cons_succ, vB_cons, ih n h', vB_cons]
      have : rd (x :: xs) ((n + 1 : Nat) : Int) = rd xs (n : Int) := by rw [rd_nat, rd_nat]; simp
      rw [this, Int.pow_succ, Int.mul_add, ← Int.add_assoc, ← Int.mul_assoc, Int.mul_comm B (B ^ n)]
theorem dig_inj {B : Int} (hB : 0 < B) : ∀ {l m : List Int}, Dig B l → Dig B m → l.length = m.length → vB B l = vB B m → l = m
  | [], [], _, _, _, _ => rfl
  | [], y :: ys, _, _, h, _ => by simp at h
  | x :: xs, [], _, _, h, _ => by simp at h
  | x :: xs, y :: ys, hl, hm, h, hv => by
    have h1 := Dig_cons.1 hl
    have h2 := Dig_cons.1 hm
    rw [vB_cons, vB_cons] at hv
    have hx : x = y := by
      have e1 : (x + B * vB B xs) % B = x := by rw [Int.add_mul_emod_self_left, Int.emod_eq_of_lt h1.1.1 h1.1.2]
      have e2 : (y + B * vB B ys) % B = y := by rw [Int.add_mul_emod_self_left, Int.emod_eq_of_lt h2.1.1 h2.1.2]
      rw [← e1, ← e2, hv]
    subst hx
    have hv' : B * vB B xs = B * vB B ys := by omega
    have := Int.eq_of_mul_eq_mul_left (by omega) hv'
    rw [dig_inj hB h1.2 h2.2 (by simpa using h) this]
theorem trim_le {B : Int} (hB : 0 < B) {l : List Int} (h : Dig B l) (ht : Trim l) (hp : 0 < l.length) : B ^ (l.length - 1) ≤ vB B l := by
  have e : l.take (l.length - 1 + 1) = l := List.take_of_length_le (by omega)
  have h1 := vB_take_succ B l (l.length - 1) (by omega)
  rw [e] at h1
  rw [h1]
  have h2 := vB_nonneg (Int.le_of_lt hB) (Dig_take h (l.length - 1))
  have h3 := (Dig_rd h (l.length - 1) (by omega)).1
  have h4 : 1 ≤ rd l ((l.length - 1 : Nat) : Int) := by have := ht hp; omega
  have h5 : B ^ (l.length - 1) * 1 ≤ B ^ (l.length - 1) * rd l ((l.length - 1 : Nat) : Int) := Int.mul_le_mul_of_nonneg_left h4 (Int.le_of_lt (Int.pow_pos hB))
  rw [Int.mul_one] at h5
  omega
theorem pow_le_pow {B : Int} (hB : 0 < B) {m n : Nat} (h : m ≤ n) : B ^ m ≤ B ^ n := by
  obtain ⟨j, rfl⟩ : ∃ j, n = m + j := ⟨n - m, by omega⟩
  rw [Int.pow_add]
  have h1 : 1 ≤ B ^ j := by have : 0 < B ^ j := Int.pow_pos hB; omega
  have h2 : B ^ m * 1 ≤ B ^ m * B ^ j := Int.mul_le_mul_of_nonneg_left h1 (Int.le_of_lt (Int.pow_pos hB))
  rwa [Int.mul_one] at h2
theorem trim_len {B : Int} (hB : 0 < B) {l m : List Int} (hl : Dig B l) (hm : Dig B m) (ht : Trim m) (h : l.length < m.length) : vB B l < vB B m := by
  have h1 := vB_lt hB hl
  have h2 := trim_le hB hm ht (by omega)
  have h3 := pow_le_pow hB (show l.length ≤ m.length - 1 by omega)
  omega
theorem trim_inj {B : Int} (hB : 0 < B) {l m : List Int} (hl : Dig B l) (hm : Dig B m) (tl : Trim l) (tm : Trim m) (hv : vB B l = vB B m) : l = m := by
  rcases Nat.lt_trichotomy l.length m.length with h | h | h
  · have := trim_len hB hl hm tm h; omega
  · exact dig_inj hB hl hm h hv
  · have := trim_len hB hm hl tl h; omega
def dgs (b : Nat) (n : Nat) : List Int :=
  if h : n = 0 then [] else ((n % (b + 2) : Nat) : Int) :: dgs b (n / (b + 2))
termination_by n
decreasing_by exact Nat.div_lt_self (by omega) (by omega)
theorem dgs_zero (b : Nat) : dgs b 0 = [] := by rw [dgs]; simp
theorem dgs_pos (b n : Nat) (h : n ≠ 0) : dgs b n = ((n % (b + 2) : Nat) : Int) :: dgs b (n / (b + 2)) := by rw [dgs]; simp [h]
theorem dgs_spec (b : Nat) : ∀ n, Dig (b + 2 : Nat) (dgs b n) ∧ Trim (dgs b n) ∧ vB (b + 2 : Nat) (dgs b n) = n := by
  intro n
  induction n using Nat.strongRecOn with
  | _ n ih =>
    by_cases h : n = 0
    · subst h
      rw [dgs_zero]
      exact ⟨Dig_nil _, fun h => absurd h (by simp), rfl⟩
    · obtain ⟨h1, h2, h3⟩ := ih (n / (b + 2)) (Nat.div_lt_self (by omega) (by omega))
      rw [dgs_pos b n h]
      have hm := Nat.mod_lt n (show 0 < b + 2 by omega)
      have hd := Nat.div_add_mod n (b + 2)
      refine ⟨Dig_cons.2 ⟨⟨by omega, by omega⟩, h1⟩, ?_, ?_⟩
      · intro _
        by_cases hz : n / (b + 2) = 0
        · rw [hz, dgs_zero]
          show rd [((n % (b + 2) : Nat) : Int)] ((0 : Nat) : Int) ≠ 0
          rw [hz] at hd
          have : ((n % (b + 2) : Nat) : Int) ≠ 0 := by omega
          simpa [rd] using this
        · have hl : 0 < (dgs b (n / (b + 2))).length := by rw [dgs_pos _ _ hz]; simp
          have := h2 hl
          rw [List.length_cons, Nat.add_sub_cancel]
          obtain ⟨q, hq⟩ : ∃ q, (dgs b (n / (b + 2))).length = q + 1 := ⟨(dgs b (n / (b + 2))).length - 1, by omega⟩
          rw [hq] at this ⊢
          rw [rd_nat] at this ⊢
          simpa using this
      · rw [vB_cons, h3]
        have : ((b + 2 : Nat) : Int) * ((n / (b + 2) : Nat) : Int) + ((n % (b + 2) : Nat) : Int) = n := by exact_mod_cast hd
        omega
theorem dgs_unique {b : Nat} {l : List Int} {n : Nat} (hl : Dig (b + 2 : Nat) l) (ht : Trim l) (hv : vB (b + 2 : Nat) l = n) : l = dgs b n := by
  obtain ⟨h1, h2, h3⟩ := dgs_spec b n
  exact trim_inj (by omega) hl h1 ht h2 (by rw [hv, h3])
theorem dgs_len {b n k : Nat} (h : n < (b + 2) ^ k) : (dgs b n).length ≤ k := by
  obtain ⟨h1, h2, h3⟩ := dgs_spec b n
  rcases Nat.lt_or_ge k (dgs b n).length with hk | hk
  · have h4 := trim_le (by omega) h1 h2 (by omega)
    rw [h3] at h4
    have h5 := pow_le_pow (B := ((b + 2 : Nat) : Int)) (by omega) (show k ≤ (dgs b n).length - 1 by omega)
    have h6 : ((n : Nat) : Int) < ((b + 2 : Nat) : Int) ^ k := by exact_mod_cast h
    omega
  · exact hk
theorem dgs_lt (b n : Nat) : n < (b + 2) ^ (dgs b n).length := by
  obtain ⟨h1, h2, h3⟩ := dgs_spec b n
  have := vB_lt (by omega) h1
  rw [h3] at this
  exact_mod_cast this
end Go.Proofs.YtohkmnbnjacfaaaN
set_option linter.unusedVariables false
namespace Go.Proofs.YtohkmnbnjacfaaaN
open Go.RowKit Go.Proofs.Ytohkmnbnjacfaaa.All Go.Proofs.YtohkmnbnjacfaaaW.PrintWords Go.Proofs.YtohkmnbnjacfaaaW.PrintLast Go.Proofs.YtohkmnbnjacfaaaW.PrintMore
theorem w64 {x : Int} (h0 : -9223372036854775808 ≤ x) (h1 : x < 9223372036854775808) : wrap64 x = x := by unfold wrap64; omega
theorem u64 {x : Int} (h0 : 0 ≤ x) (h1 : x < 18446744073709551616) : IntKind.u64.wrap x = x := by
  simp [IntKind.wrap, IntKind.bits, IntKind.signed]
  omega
abbrev B64 : Int := 18446744073709551616
def d8 (n : Nat) : List Int := dgs 254 n
theorem d8_dig (n : Nat) : Dig 256 (d8 n) := (dgs_spec 254 n).1
theorem d8_trim (n : Nat) : Trim (d8 n) := (dgs_spec 254 n).2.1
theorem d8_val (n : Nat) : vB 256 (d8 n) = n := (dgs_spec 254 n).2.2
theorem d8_unique {l : List Int} {n : Nat} (hl : Dig 256 l) (ht : Trim l) (hv : vB 256 l = n) : l = d8 n := dgs_unique hl ht hv
def nat (n : Nat) : ByteArray := strOfNums (d8 n).reverse
theorem bytesOf_str {l : List Int} (h : Dig 256 l) : bytesOf (strOfNums l) = l := by
  unfold bytesOf
  rw [strOfNums_data, List.map_map]
  conv => rhs; rw [← List.map_id l]
  refine List.map_congr_left fun x hx => ?_
  have := h x hx
  simp [UInt8.toNat_ofNat']
  omega
theorem str_bytesOf (s : ByteArray) : strOfNums (bytesOf s) = s := by
  unfold strOfNums bytesOf
  rw [List.map_map]
  have : List.map ((fun n : Int => UInt8.ofNat n.toNat) ∘ fun b : UInt8 => (b.toNat : Int)) s.data.toList = s.data.toList := by
    conv => rhs; rw [← List.map_id s.data.toList]
    refine List.map_congr_left fun x _ => ?_
    simp
  rw [this]
theorem bytesOf_dig (s : ByteArray) : Dig 256 (bytesOf s) := by
  intro x hx
  unfold bytesOf at hx
  obtain ⟨b, _, rfl⟩ := List.mem_map.1 hx
  have := b.toNat_lt
  omega
theorem str_ext {s t : ByteArray} (h : bytesOf s = bytesOf t) : s = t := by rw [← str_bytesOf s, h, str_bytesOf]
theorem toList_nil {s : ByteArray} : s.toList = [] ↔ s.size = 0 := by
  rw [ByteArray.toList_eq, ← List.length_eq_zero_iff, data_length]
theorem nat_bytes (n : Nat) : bytesOf (nat n) = (d8 n).reverse := bytesOf_str (Dig_reverse (d8_dig n))
theorem nat_size (n : Nat) : (nat n).size = (d8 n).length := by rw [← bytesOf_length, nat_bytes, List.length_reverse]
def bval (s : ByteArray) : Int := vB 256 (bytesOf s).reverse
theorem bval_nat (n : Nat) : bval (nat n) = n := by unfold bval; rw [nat_bytes, List.reverse_reverse, d8_val]
theorem bval_nonneg (s : ByteArray) : 0 ≤ bval s := vB_nonneg (by decide) (Dig_reverse (bytesOf_dig s))
theorem rd_reverse (l : List Int) (n : Nat) (h : n < l.length) : rd l.reverse (n : Int) = rd l ((l.length - 1 - n : Nat) : Int) := by
  rw [rd_get _ n (by simpa using h), rd_get _ _ (by omega), List.getElem_reverse]
theorem bt_rd (s : ByteArray) (i : Int) : bt s i = rd (bytesOf s) i := (rd_bytesOf s i).symm
theorem wf_nat {s : ByteArray} (h : s.size = 0 ∨ bt s 0 ≠ 0) : s = nat (bval s).toNat := by
  apply str_ext
  rw [nat_bytes]
  have ht : Trim (bytesOf s).reverse := by
    intro hp
    rw [List.length_reverse] at hp ⊢
    rw [rd_reverse _ _ (by omega), bt_rd] at *
    rw [bytesOf_length] at hp
    have e : (bytesOf s).length - 1 - ((bytesOf s).length - 1) = 0 := by omega
    rw [e]
    rcases h with h | h
    · omega
    · exact h
  have := d8_unique (n := (bval s).toNat) (Dig_reverse (bytesOf_dig s)) ht (by have := bval_nonneg s; unfold bval at this ⊢; omega)
  rw [← this, List.reverse_reverse]
theorem nat_wf (n : Nat) : (nat n).size = 0 ∨ bt (nat n) 0 ≠ 0 := by
  rcases Nat.eq_zero_or_pos (d8 n).length with h | h
  · left; rw [nat_size, h]
  · right
    rw [bt_rd, nat_bytes]
    have := d8_trim n h
    have e := rd_reverse (d8 n) 0 (by omega)
    rw [show (d8 n).length - 1 - 0 = (d8 n).length - 1 by omega] at e
    rw [← e] at this
    exact this
theorem nat_zero : nat 0 = ⟨#[]⟩ := by unfold nat d8; rw [dgs_zero]; rfl
theorem nat_size_zero {n : Nat} : (nat n).size = 0 ↔ n = 0 := by
  constructor
  · intro h
    rw [nat_size] at h
    have := d8_val n
    rw [List.eq_nil_of_length_eq_zero h] at this
    simp [vB] at this
    omega
  · rintro rfl; rw [nat_zero]; rfl
theorem nat_size_le {n k : Nat} : (nat n).size ≤ k ↔ n < 256 ^ k := by
  rw [nat_size]
  constructor
  · intro h
    exact Nat.lt_of_lt_of_le (dgs_lt 254 n) (Nat.pow_le_pow_right (by decide) h)
  · intro h
    exact dgs_len h
theorem nat_lt_size (n : Nat) : n < 256 ^ (nat n).size := nat_size_le.1 (Nat.le_refl _)
end Go.Proofs.YtohkmnbnjacfaaaN
set_option linter.unusedVariables false
namespace Go.Proofs.YtohkmnbnjacfaaaN
open Go.RowKit Go.Proofs.Ytohkmnbnjacfaaa.All Go.Proofs.YtohkmnbnjacfaaaW.PrintWords Go.Proofs.YtohkmnbnjacfaaaW.PrintLast Go.Proofs.YtohkmnbnjacfaaaW.PrintMore
theorem wraps_u64 (n : Int) (h0 : 0 ≤ n) (h1 : n < 2 ^ 64) : IntKind.u64.wrap n = n := u64 h0 (by simpa using h1)
end Go.Proofs.YtohkmnbnjacfaaaN
set_option linter.unusedVariables false
namespace Go.Proofs.YtohkmnbnjacfaaaN
open Go.RowKit Go.Proofs.Ytohkmnbnjacfaaa.All Go.Proofs.YtohkmnbnjacfaaaW.PrintWords Go.Proofs.YtohkmnbnjacfaaaW.PrintLast Go.Proofs.YtohkmnbnjacfaaaW.PrintMore
theorem mul_range {a b A B : Int} (a0 : 0 ≤ a) (a1 : a ≤ A) (b0 : 0 ≤ b) (b1 : b ≤ B) : 0 ≤ a * b ∧ a * b ≤ A * B :=
  ⟨Int.mul_nonneg a0 b0, Int.le_trans (Int.mul_le_mul_of_nonneg_left b1 a0) (Int.mul_le_mul_of_nonneg_right a1 (by omega))⟩
theorem and_low {x : Int} (h0 : 0 ≤ x) (h1 : x < B64) : Go.bits .and .u64 x 4294967295 = x % 4294967296 :=
  bits_mask .u64 64 (by decide) wraps_u64 32 (by decide) x h0 (by simpa using h1)
theorem mul_add {x y o c : Int} (x0 : 0 ≤ x) (x1 : x < B64) (y0 : 0 ≤ y) (y1 : y < B64) (o0 : 0 ≤ o) (o1 : o < B64) (c0 : 0 ≤ c) (c1 : c < B64) :
    IntKind.u64.wrap (IntKind.u64.wrap (x * y / B64 + (x * y % B64 + o + 0) / B64) + ((x * y % B64 + o + 0) % B64 + c + 0) / B64) = (x * y + o + c) / B64 ∧ ((x * y % B64 + o + 0) % B64 + c + 0) % B64 = (x * y + o + c) % B64 ∧ 0 ≤ (x * y + o + c) / B64 ∧ (x * y + o + c) / B64 < B64 := by
  have x1' : x < 18446744073709551616 := x1
  have y1' : y < 18446744073709551616 := y1
  have o1' : o < 18446744073709551616 := o1
  have c1' : c < 18446744073709551616 := c1
  have hp := mul_range x0 (show x ≤ 18446744073709551615 by omega) y0 (show y ≤ 18446744073709551615 by omega)
  have h1 : (18446744073709551615 : Int) * 18446744073709551615 = 340282366920938463426481119284349108225 := rfl
  rw [h1] at hp
  show IntKind.u64.wrap (IntKind.u64.wrap (x * y / 18446744073709551616 + (x * y % 18446744073709551616 + o + 0) / 18446744073709551616) + ((x * y % 18446744073709551616 + o + 0) % 18446744073709551616 + c + 0) / 18446744073709551616) = (x * y + o + c) / 18446744073709551616 ∧ ((x * y % 18446744073709551616 + o + 0) % 18446744073709551616 + c + 0) % 18446744073709551616 = (x * y + o + c) % 18446744073709551616 ∧ 0 ≤ (x * y + o + c) / 18446744073709551616 ∧ (x * y + o + c) / 18446744073709551616 < 18446744073709551616
  generalize x * y = p at *
  clear x0 x1 x1' y0 y1 y1' o1 c1 h1
  have a1 : 0 ≤ p / 18446744073709551616 + (p % 18446744073709551616 + o + 0) / 18446744073709551616 ∧ p / 18446744073709551616 + (p % 18446744073709551616 + o + 0) / 18446744073709551616 < 18446744073709551616 := by omega
  rw [u64 a1.1 a1.2]
  have a2 : p / 18446744073709551616 + (p % 18446744073709551616 + o + 0) / 18446744073709551616 + ((p % 18446744073709551616 + o + 0) % 18446744073709551616 + c + 0) / 18446744073709551616 = (p + o + c) / 18446744073709551616 := by omega
  have a3 : 0 ≤ (p + o + c) / 18446744073709551616 ∧ (p + o + c) / 18446744073709551616 < 18446744073709551616 := by omega
  rw [a2, u64 a3.1 a3.2]
  refine ⟨rfl, by omega, a3.1, a3.2⟩
theorem take_succ (B : Int) (l : List Int) (i : Nat) : vB B (l.take (i + 1)) = vB B (l.take i) + B ^ i * rd l (i : Int) := by
  rcases Nat.lt_or_ge i l.length with h | h
  · exact vB_take_succ B l i h
  · rw [List.take_of_length_le (by omega), List.take_of_length_le h, rd_nat, List.getD_eq_getElem?_getD, List.getElem?_eq_none h]
    simp
end Go.Proofs.YtohkmnbnjacfaaaN
set_option linter.unusedVariables false
namespace Go.Proofs.YtohkmnbnjacfaaaN
open Go.RowKit Go.Proofs.Ytohkmnbnjacfaaa.All Go.Proofs.YtohkmnbnjacfaaaW.PrintWords Go.Proofs.YtohkmnbnjacfaaaW.PrintLast Go.Proofs.YtohkmnbnjacfaaaW.PrintMore
theorem size_mono {m n : Nat} (h : m ≤ n) : (nat m).size ≤ (nat n).size := nat_size_le.2 (Nat.lt_of_le_of_lt h (nat_lt_size n))
def chk (s : ByteArray) : Int := if 0 < s.size ∧ bt s 0 = 0 then 1 else if 1024 < s.size then 4 else 0
theorem Check_ev (s : ByteArray) : Ev (fun k => natural_Check.f k s) (chk s) := by
  have hj : ∀ b : Bool, (b = true ↔ 0 < s.size ∧ bt s 0 = 0) → Ev (fun k => natural_Check.j0 k s b) (chk s) := by
    intro b hb
    refine Ev.step (f := fun _ => some (chk s)) (fun k => ?_) (Ev.now _)
    unfold chk
    simp only [natural_Check.j0]
    by_cases h : b = true
    · rw [if_pos h, if_pos (hb.1 h)]
    · rw [if_neg h, if_neg (fun h' => h (hb.2 h'))]
      by_cases h3 : 1024 < s.size
      · rw [if_pos (by omega), if_pos h3]
      · rw [if_neg (by omega), if_neg h3]
  by_cases h : 0 < s.size
  · refine Ev.congr (f := fun k => natural_Check.j0 k s (bt s 0 == 0)) (fun k => ?_) (hj _ (by simp [h]))
    unfold natural_Check.f
    rw [if_pos (by omega), if_pos (by omega)]
  · refine Ev.congr (f := fun k => natural_Check.j0 k s false) (fun k => ?_) (hj _ (by simp [h]))
    unfold natural_Check.f
    rw [if_neg (by omega)]
theorem chk_nat {n : Nat} (h : (nat n).size ≤ 1024) : chk (nat n) = 0 := by
  unfold chk
  rw [if_neg, if_neg (by omega)]
  rintro ⟨h1, h2⟩
  rcases nat_wf n with h3 | h3
  · omega
  · exact h3 h2
theorem chk_zero {s : ByteArray} (h : chk s = 0) : s = nat (bval s).toNat ∧ s.size ≤ 1024 := by
  unfold chk at h
  by_cases h1 : 0 < s.size ∧ bt s 0 = 0
  · rw [if_pos h1] at h; omega
  · rw [if_neg h1] at h
    refine ⟨wf_nat ?_, ?_⟩
    · rcases Nat.eq_zero_or_pos s.size with h2 | h2
      · exact Or.inl h2
      · exact Or.inr (fun h3 => h1 ⟨h2, h3⟩)
    · rcases Nat.lt_or_ge 1024 s.size with h2 | h2
      · rw [if_pos h2] at h; omega
      · exact h2
def firstErr : List ByteArray → Int
  | [] => 0
  | s :: l => if chk s = 0 then firstErr l else chk s
theorem first_l0 (l : List ByteArray) (hl : l.length < 9223372036854775808) : ∀ (d i : Nat), i + d = l.length → Ev (fun k => natural_first.l0 k l (l.length : Int) (i : Int)) (firstErr (l.drop i)) := by
  intro d
  induction d with
  | zero =>
    intro i hi
    rw [List.drop_of_length_le (by omega)]
    refine Ev.step (f := fun _ => some 0) (fun k => ?_) (Ev.now _)
    simp only [natural_first.l0]
    rw [if_neg (by omega)]
  | succ d ih =>
    intro i hi
    have hi' : i < l.length := by omega
    have e1 : wrap64 ((i : Int) + 1) = ((i + 1 : Nat) : Int) := by rw [w64 (by omega) (by omega)]; omega
    have e2 : rdOf ByteArray.empty l (i : Int) = l[i] := by
      unfold rdOf
      rw [Int.toNat_natCast, List.getD_eq_getElem?_getD, List.getElem?_eq_getElem hi']
      rfl
    rw [List.drop_eq_getElem_cons hi', firstErr]
    refine Ev.step (f := fun k => (natural_Check.f k l[i]).bind fun t => if t = 0 then natural_first.l0 k l (l.length : Int) ((i + 1 : Nat) : Int) else some t) (fun k => ?_) (Ev.bind (Check_ev _) ?_)
    · simp only [natural_first.l0, e1, e2]
      rw [if_pos (by omega), if_pos (by omega), if_pos (by omega)]
    · by_cases h : chk l[i] = 0
      · rw [if_pos h]
        exact Ev.congr (fun k => if_pos h) (ih (i + 1) (by omega))
      · rw [if_neg h]
        exact Ev.congr (f := fun _ => some (chk l[i])) (fun k => if_neg h) (Ev.now _)
theorem first_ev (l : List ByteArray) (hl : l.length < 9223372036854775808) : Ev (fun k => natural_first.f k l) (firstErr l) := first_l0 l hl l.length 0 (by omega)
theorem first1 (a : ByteArray) : Ev (fun k => natural_first.f k [a]) (chk a) := by
  have := first_ev [a] (by simp)
  rwa [show firstErr [a] = chk a by unfold firstErr firstErr; split <;> simp_all] at this
end Go.Proofs.YtohkmnbnjacfaaaN
set_option linter.unusedVariables false
namespace Go.Proofs.YtohkmnbnjacfaaaN
open Go.RowKit Go.Proofs.Ytohkmnbnjacfaaa.All Go.Proofs.YtohkmnbnjacfaaaW.PrintWords Go.Proofs.YtohkmnbnjacfaaaW.PrintLast Go.Proofs.YtohkmnbnjacfaaaW.PrintMore
theorem ev_some {α β : Type} {o : Option α} {f : Nat → α → Option β} {a : α} {r : β} (h : o = some a) (k : Ev (fun n => f n a) r) : Ev (fun n => o.bind (f n)) r := by subst h; exact k
theorem awake_ev : Ev (fun k => galoislaw01_awake.f k) true := Ev.of (fun k => galoislaw01_awake.mono k) (k := 60) (by decide +kernel)
theorem refCheck_eq (s : ByteArray) : galoisref01_Check.f s = some (chk s) := by
  have hv : galoisref01_Valid.f s = some (decide (s.size = 0 ∨ bt s 0 ≠ 0)) := by
    unfold galoisref01_Valid.f
    by_cases h : s.size = 0
    · rw [if_pos (toList_nil.2 h)]
      simp [h]
    · rw [if_neg (fun h' => h (toList_nil.1 h')), if_pos (by omega)]
      by_cases h2 : bt s 0 = 0 <;> simp [h, h2]
  unfold galoisref01_Check.f
  rw [hv, Option.bind_some]
  unfold chk galoisref01_Fits.f
  by_cases h : s.size = 0 ∨ bt s 0 ≠ 0
  · have hn : ¬ (0 < s.size ∧ bt s 0 = 0) := by
      intro h1
      rcases h with h | h
      · exact Nat.ne_of_gt h1.1 h
      · exact h h1.2
    rw [if_pos (decide_eq_true h), if_neg hn]
    by_cases h3 : 1024 < s.size
    · rw [if_pos (show (s.size : Int) > 1024 by omega), if_pos h3]
      rfl
    · rw [if_neg (show ¬ (s.size : Int) > 1024 by omega), if_neg h3]
      rfl
  · have hn : 0 < s.size ∧ bt s 0 = 0 := by
      refine ⟨Nat.pos_of_ne_zero fun h1 => h (Or.inl h1), ?_⟩
      rcases Decidable.em (bt s 0 = 0) with h2 | h2
      · exact h2
      · exact absurd (Or.inr h2) h
    rw [if_neg (by rw [decide_eq_true_eq]; exact h), if_pos hn]
theorem number {s : ByteArray} (h : chk s = 0) : ∃ n, s = nat n ∧ (nat n).size ≤ 1024 := by
  obtain ⟨h1, h2⟩ := chk_zero h
  exact ⟨_, h1, by rw [← h1]; exact h2⟩
end Go.Proofs.YtohkmnbnjacfaaaN
set_option linter.unusedVariables false
namespace Go.Proofs.YtohkmnbnjacfaaaN
open Go.RowKit Go.Proofs.Ytohkmnbnjacfaaa.All Go.Proofs.YtohkmnbnjacfaaaW.PrintWords Go.Proofs.YtohkmnbnjacfaaaW.PrintLast Go.Proofs.YtohkmnbnjacfaaaW.PrintMore
theorem shr_eq (x : Int) (s : Nat) (hs : s ≤ 64) : shr .u64 x (s : Int) = x / 2 ^ s := by
  unfold shr
  rw [Int.toNat_natCast, show min s IntKind.u64.bits = s from Nat.min_eq_left hs]
end Go.Proofs.YtohkmnbnjacfaaaN
set_option linter.unusedVariables false
namespace Go.Proofs.YtohkmnbnjacfaaaN
open Go.RowKit Go.Proofs.Ytohkmnbnjacfaaa.All Go.Proofs.YtohkmnbnjacfaaaW.PrintWords Go.Proofs.YtohkmnbnjacfaaaW.PrintLast Go.Proofs.YtohkmnbnjacfaaaW.PrintMore
end Go.Proofs.YtohkmnbnjacfaaaN
set_option linter.unusedVariables false
namespace Go.Proofs.YtohkmnbnjacfaaaN
open Go.RowKit Go.Proofs.Ytohkmnbnjacfaaa.All Go.Proofs.YtohkmnbnjacfaaaW.PrintWords Go.Proofs.YtohkmnbnjacfaaaW.PrintLast Go.Proofs.YtohkmnbnjacfaaaW.PrintMore
def SubMul (u v z : List Int) (q : Int) (i : Nat) (b c : Int) : Prop :=
  z.length = u.length ∧ Dig B64 z ∧ (0 ≤ b ∧ b ≤ 1) ∧ (0 ≤ c ∧ c < B64) ∧ vB B64 z + q * vB B64 (v.take i) = vB B64 u + B64 ^ i * (b + c)
theorem sub_mul {u v z : List Int} {q b c d e : Int} {i : Nat} (hz : i < z.length) (q0 : 0 ≤ q) (q1 : q < B64) (hv : Dig B64 v) (hi : i < v.length) (h : SubMul u v z q i b c) (d0 : 0 ≤ d) (d1 : d < B64) (e0 : 0 ≤ e) (e1 : e ≤ 1)
    (he : d = rd z (i : Int) - (q * rd v (i : Int) + 0 + c) % B64 - b + B64 * e) : SubMul u v (z.set i d) q (i + 1) e ((q * rd v (i : Int) + 0 + c) / B64) := by
  obtain ⟨hl, hd, hb, hc, hs⟩ := h
  obtain ⟨y0, y1⟩ := Dig_rd hv i hi
  obtain ⟨-, -, n0, n1⟩ := mul_add q0 q1 y0 y1 (Int.le_refl 0) (by decide) hc.1 hc.2
  refine ⟨by rw [List.length_set]; exact hl, Dig_set hd _ d0 d1, ⟨e0, e1⟩, ⟨n0, n1⟩, ?_⟩
  rw [vB_set _ _ _ _ hz, take_succ, Int.pow_succ, he]
  have g := Int.emod_add_mul_ediv (q * rd v (i : Int) + 0 + c) B64
  generalize (q * rd v (i : Int) + 0 + c) / B64 = C at *
  generalize (q * rd v (i : Int) + 0 + c) % B64 = l at *
  have er : l = q * rd v (i : Int) + c - B64 * C := by clear hs; omega
  have e2 : rd z (i : Int) - l - b + B64 * e - rd z (i : Int) = B64 * e + B64 * C - q * rd v (i : Int) - c - b := by clear hs; omega
  rw [e2]
  generalize rd v (i : Int) = y at *
  generalize vB B64 (List.take i v) = T at *
  generalize (B64 : Int) ^ i = P at *
  rw [Int.mul_add q, Int.mul_left_comm q P y, Int.mul_sub, Int.mul_sub, Int.mul_sub, Int.mul_add, Int.mul_assoc P B64, Int.mul_add B64, Int.mul_add P]
  rw [Int.mul_add] at hs
  generalize q * y = qy at *
  generalize P * qy = A at *
  generalize P * (B64 * e) = A1 at *
  generalize P * (B64 * C) = A2 at *
  generalize P * c = A3 at *
  generalize P * b = A4 at *
  omega
end Go.Proofs.YtohkmnbnjacfaaaN
set_option linter.unusedVariables false
namespace Go.Proofs.YtohkmnbnjacfaaaN
open Go.RowKit Go.Proofs.Ytohkmnbnjacfaaa.All Go.Proofs.YtohkmnbnjacfaaaW.PrintWords Go.Proofs.YtohkmnbnjacfaaaW.PrintLast Go.Proofs.YtohkmnbnjacfaaaW.PrintMore
end Go.Proofs.YtohkmnbnjacfaaaN
set_option linter.unusedVariables false
namespace Go.Proofs.YtohkmnbnjacfaaaN
open Go.RowKit Go.Proofs.Ytohkmnbnjacfaaa.All Go.Proofs.YtohkmnbnjacfaaaW.PrintWords Go.Proofs.YtohkmnbnjacfaaaW.PrintLast Go.Proofs.YtohkmnbnjacfaaaW.PrintMore
theorem drop_succ (B : Int) (l : List Int) (i : Nat) (h : i < l.length) : vB B (l.drop i) = rd l (i : Int) + B * vB B (l.drop (i + 1)) := by
  rw [List.drop_eq_getElem_cons h, vB_cons, rd_get l i h]
end Go.Proofs.YtohkmnbnjacfaaaN
set_option linter.unusedVariables false
namespace Go.Proofs.YtohkmnbnjacfaaaN
open Go.RowKit Go.Proofs.Ytohkmnbnjacfaaa.All Go.Proofs.YtohkmnbnjacfaaaW.PrintWords Go.Proofs.YtohkmnbnjacfaaaW.PrintLast Go.Proofs.YtohkmnbnjacfaaaW.PrintMore
end Go.Proofs.YtohkmnbnjacfaaaN
set_option linter.unusedVariables false
namespace Go.Proofs.YtohkmnbnjacfaaaN
open Go.RowKit Go.Proofs.Ytohkmnbnjacfaaa.All Go.Proofs.YtohkmnbnjacfaaaW.PrintWords Go.Proofs.YtohkmnbnjacfaaaW.PrintLast Go.Proofs.YtohkmnbnjacfaaaW.PrintMore
end Go.Proofs.YtohkmnbnjacfaaaN
set_option linter.unusedVariables false
namespace Go.Proofs.YtohkmnbnjacfaaaN
open Go.RowKit Go.Proofs.Ytohkmnbnjacfaaa.All Go.Proofs.YtohkmnbnjacfaaaW.PrintWords Go.Proofs.YtohkmnbnjacfaaaW.PrintLast Go.Proofs.YtohkmnbnjacfaaaW.PrintMore
end Go.Proofs.YtohkmnbnjacfaaaN
set_option linter.unusedVariables false
namespace Go.Proofs.YtohkmnbnjacfaaaN
open Go.RowKit Go.Proofs.Ytohkmnbnjacfaaa.All Go.Proofs.YtohkmnbnjacfaaaW.PrintWords Go.Proofs.YtohkmnbnjacfaaaW.PrintLast Go.Proofs.YtohkmnbnjacfaaaW.PrintMore
theorem str_nat {l : List Int} {n : Nat} (hd : Dig 256 l) (ht : 0 < l.length → rd l 0 ≠ 0) (hv : vB 256 l.reverse = n) : strOfNums l = nat n := by
  have : l.reverse = d8 n := by
    refine d8_unique (Dig_reverse hd) (fun hp => ?_) hv
    rw [List.length_reverse] at hp ⊢
    have := rd_reverse l (l.length - 1) (by omega)
    rw [show l.length - 1 - (l.length - 1) = 0 by omega] at this
    rw [this]
    exact ht hp
  unfold nat
  rw [← this, List.reverse_reverse]
theorem drop_zeros (l : List Int) (hd : Dig 256 l) : Dig 256 (l.dropWhile (· == 0)) ∧ (0 < (l.dropWhile (· == 0)).length → rd (l.dropWhile (· == 0)) 0 ≠ 0) ∧ vB 256 (l.dropWhile (· == 0)).reverse = vB 256 l.reverse := by
  induction l with
  | nil => exact ⟨Dig_nil _, fun h => absurd h (by simp), rfl⟩
  | cons x l ih =>
    have h := Dig_cons.1 hd
    by_cases hx : x = 0
    · subst hx
      have e : (0 :: l).dropWhile (· == 0) = l.dropWhile (· == 0) := by simp [List.dropWhile]
      obtain ⟨h1, h2, h3⟩ := ih h.2
      rw [e]
      refine ⟨h1, h2, ?_⟩
      rw [h3, List.reverse_cons, vB_append]
      simp [vB]
    · have hb : (x == 0) = false := by simpa using hx
      have e : (x :: l).dropWhile (· == 0) = x :: l := by simp [List.dropWhile, hb]
      rw [e]
      exact ⟨hd, fun _ => hx, rfl⟩
theorem Of_eq {u : Nat} (hu : u < 18446744073709551616) : natural_Of.f (u : Int) = some (nat u) := by
  unfold natural_Of.f
  rw [if_pos ⟨by omega, by omega⟩]
  congr 1
  have hl : natural_Of.bytes (u : Int) 8 = [natural_Of.byte u 0, natural_Of.byte u 1, natural_Of.byte u 2, natural_Of.byte u 3, natural_Of.byte u 4, natural_Of.byte u 5, natural_Of.byte u 6, natural_Of.byte u 7] := rfl
  simp only [natural_Of.byte, Nat.reduceMul, Nat.reduceSub, Int.reducePow] at hl
  have hd : Dig 256 (natural_Of.bytes (u : Int) 8) := by
    rw [hl]
    repeat (refine Dig_cons.2 ⟨⟨Int.emod_nonneg _ (by decide), Int.emod_lt_of_pos _ (by decide)⟩, ?_⟩)
    exact Dig_nil _
  have hv : vB 256 (natural_Of.bytes (u : Int) 8).reverse = u := by
    rw [hl]
    simp only [List.reverse_cons, List.reverse_nil, List.nil_append, List.cons_append, vB]
    omega
  obtain ⟨h1, h2, h3⟩ := drop_zeros _ hd
  exact str_nat h1 h2 (by rw [h3, hv])
end Go.Proofs.YtohkmnbnjacfaaaN
set_option linter.unusedVariables false
namespace Go.Proofs.YtohkmnbnjacfaaaN
open Go.RowKit Go.Proofs.Ytohkmnbnjacfaaa.All Go.Proofs.YtohkmnbnjacfaaaW.PrintWords Go.Proofs.YtohkmnbnjacfaaaW.PrintLast Go.Proofs.YtohkmnbnjacfaaaW.PrintMore
abbrev B32 : Int := 4294967296
def win (s : ByteArray) (a b : Nat) : Int := vB 256 (((bytesOf s).take b).drop a).reverse
theorem win_self (s : ByteArray) (a : Nat) : win s a a = 0 := by
  unfold win
  rw [List.drop_of_length_le (by rw [List.length_take]; omega)]
  rfl
theorem win_succ (s : ByteArray) (a b : Nat) (hab : a ≤ b) (hb : b < s.size) : win s a (b + 1) = win s a b * 256 + bt s (b : Int) := by
  unfold win
  rw [List.take_succ_eq_append_getElem (by rw [bytesOf_length]; exact hb), List.drop_append_of_le_length (by rw [List.length_take, bytesOf_length]; omega), List.reverse_append, List.reverse_singleton, List.singleton_append, vB_cons, bt_rd, rd_get _ b (by rw [bytesOf_length]; exact hb)]
  omega
theorem win_range (s : ByteArray) (a b : Nat) (hab : a ≤ b) (hb : b ≤ s.size) : 0 ≤ win s a b ∧ win s a b < 256 ^ (b - a) := by
  have hd : Dig 256 (((bytesOf s).take b).drop a).reverse := Dig_reverse (Dig_drop (Dig_take (bytesOf_dig s) _) _)
  refine ⟨vB_nonneg (by decide) hd, ?_⟩
  have := vB_lt (by decide) hd
  rw [List.length_reverse, List.length_drop, List.length_take, bytesOf_length, Nat.min_eq_left hb] at this
  exact this
theorem win_all (s : ByteArray) : win s 0 s.size = bval s := by
  unfold win bval
  rw [List.drop_zero, List.take_of_length_le (by rw [bytesOf_length]; exact Nat.le_refl _)]
theorem d8_push {N x : Nat} (hx : x < 256) (h : N * 256 + x ≠ 0) : d8 (N * 256 + x) = (x : Int) :: d8 N := by
  unfold d8
  rw [dgs_pos _ _ h, show (N * 256 + x) % (254 + 2) = x by omega, show (N * 256 + x) / (254 + 2) = N by omega]
theorem rpack_byte {N x : Nat} (hx : x < 256) : (if (((d8 N).reverse.length : Int) > 0) then (d8 N).reverse ++ [(x : Int)] else if (x : Int) > 0 then (d8 N).reverse ++ [(x : Int)] else (d8 N).reverse) = (d8 (N * 256 + x)).reverse := by
  by_cases h : N * 256 + x = 0
  · have hN : N = 0 := by omega
    have hx0 : x = 0 := by omega
    subst hN hx0
    have : d8 0 = [] := dgs_zero _
    rw [show 0 * 256 + 0 = 0 from rfl, this]
    simp
  · rw [d8_push hx h, List.reverse_cons]
    by_cases h1 : ((d8 N).reverse.length : Int) > 0
    · rw [if_pos h1]
    · rw [if_neg h1, if_pos]
      have : N = 0 := by
        rcases Nat.eq_zero_or_pos N with h2 | h2
        · exact h2
        · exfalso
          have h3 : (nat N).size ≠ 0 := fun h4 => by have := nat_size_zero.1 h4; omega
          rw [nat_size] at h3
          rw [List.length_reverse] at h1
          omega
      omega
theorem rpack_l1 {l : List Int} {V : Nat} (hd : Dig B32 l) (hl : l.length ≤ 1099511627776) (hV : (nat V).size ≤ 4398046511104) {i H D : Nat} (hi : i < l.length) (hD : rd l (i : Int) = D) (hle : H * 4294967296 + D ≤ V) {r : ByteArray}
    (next : Ev (fun k => galoisref01_pack.l0 k l (d8 (H * 4294967296 + D)).reverse ((i : Int) - 1)) r) : ∀ (c N : Nat), c ≤ 4 → N = H * 256 ^ (4 - c) + D / 256 ^ c → Ev (fun k => galoisref01_pack.l1 k l (d8 N).reverse (i : Int) (8 * (c : Int) - 8)) r := by
  have hD32 : D < 4294967296 := by
    have h := (Dig_rd hd i hi).2
    rw [hD] at h
    exact Int.ofNat_lt.1 h
  intro c
  induction c with
  | zero =>
    intro N _ hN
    have hN : N = H * 4294967296 + D := by simpa using hN
    rw [hN]
    have e1 : wrap64 ((i : Int) - 1) = (i : Int) - 1 := w64 (by omega) (by omega)
    refine Ev.step (fun k => ?_) next
    simp only [galoisref01_pack.l1, e1]
    rw [if_neg (by decide)]
  | succ c ih =>
    intro N hc hN
    have hcase : c = 0 ∨ c = 1 ∨ c = 2 ∨ c = 3 := by omega
    have hNV : N ≤ V := by
      refine Nat.le_trans ?_ hle
      rw [hN]
      exact Nat.add_le_add (Nat.mul_le_mul_left H (Nat.pow_le_pow_right (show 0 < 256 by decide) (show 4 - (c + 1) ≤ 4 from Nat.sub_le _ _))) (Nat.div_le_self _ _)
    have hb : ∃ x : Nat, x < 256 ∧ (shr .u64 (rd l (i : Int)) (8 * ((c + 1 : Nat) : Int) - 8)) % 256 = (x : Int) ∧ N * 256 + x = H * 256 ^ (4 - c) + D / 256 ^ c := by
      refine ⟨D / 256 ^ c % 256, Nat.mod_lt _ (by decide), ?_, ?_⟩
      · rw [show 8 * ((c + 1 : Nat) : Int) - 8 = ((8 * c : Nat) : Int) by omega, shr_eq _ _ (by omega), hD]
        rcases hcase with rfl | rfl | rfl | rfl <;> simp <;> omega
      · rw [hN]
        rcases hcase with rfl | rfl | rfl | rfl <;> simp <;> omega
    obtain ⟨x, x1, x2, x3⟩ := hb
    have hsz : (d8 N).reverse.length < 140737488355328 := by
      have := size_mono hNV
      rw [nat_size] at this
      rw [List.length_reverse]
      omega
    have e1 : wrap64 (8 * ((c + 1 : Nat) : Int) - 8 - 8) = 8 * (c : Int) - 8 := by rw [w64 (by omega) (by omega)]; omega
    refine Ev.step (f := fun k => galoisref01_pack.l1 k l (d8 (N * 256 + x)).reverse (i : Int) (8 * (c : Int) - 8)) (fun k => ?_) (ih (N * 256 + x) (by omega) x3)
    rw [← rpack_byte x1]
    simp only [galoisref01_pack.l1, e1, x2]
    rw [if_pos (by omega), if_pos (by omega), if_pos (by omega), if_pos (by omega)]
    by_cases h1 : ((d8 N).reverse.length : Int) > 0
    · rw [if_pos h1, if_pos hsz, if_pos h1]
    · rw [if_neg h1, if_neg h1]
      by_cases h2 : (x : Int) > 0
      · rw [if_pos h2, if_pos hsz, if_pos h2]
      · rw [if_neg h2, if_neg h2]
theorem rpack_l0 {l : List Int} {V : Nat} (hd : Dig B32 l) (hl : l.length ≤ 1099511627776) (hV : (nat V).size ≤ 4398046511104) (hv : vB B32 l = V) : ∀ (J H : Nat), J ≤ l.length → vB B32 (l.drop J) = H → Ev (fun k => galoisref01_pack.l0 k l (d8 H).reverse ((J : Int) - 1)) (nat V) := by
  intro J
  induction J with
  | zero =>
    intro H _ hH
    rw [List.drop_zero, hv] at hH
    have e : H = V := by omega
    subst e
    refine Ev.step (f := fun _ => some (nat H)) (fun k => ?_) (Ev.now _)
    simp only [galoisref01_pack.l0]
    rw [if_neg (by decide)]
    rfl
  | succ i ih =>
    intro H hJ hH
    have hi : i < l.length := by omega
    obtain ⟨D, hD⟩ := Int.eq_ofNat_of_zero_le (Dig_rd hd i hi).1
    have hds := drop_succ B32 l i hi
    rw [hH, hD] at hds
    have hds' : vB B32 (l.drop i) = ((H * 4294967296 + D : Nat) : Int) := by
      rw [hds]
      show (D : Int) + 4294967296 * (H : Int) = _
      omega
    have hle : H * 4294967296 + D ≤ V := by
      have h1 := vB_split B32 l i (by omega)
      have h2 := vB_nonneg (show (0 : Int) ≤ B32 by decide) (Dig_take hd i)
      have h3 : (1 : Int) ≤ B32 ^ i := by have : (0 : Int) < B32 ^ i := Int.pow_pos (by decide); omega
      have h4 := Int.mul_le_mul_of_nonneg_right h3 (show 0 ≤ vB B32 (l.drop i) from vB_nonneg (by decide) (Dig_drop hd i))
      rw [Int.one_mul] at h4
      rw [hv] at h1
      rw [hds'] at h1 h4
      generalize B32 ^ i * ((H * 4294967296 + D : Nat) : Int) = X at *
      clear h3
      omega
    refine Ev.congr (f := fun k => galoisref01_pack.l0 k l (d8 H).reverse (i : Int)) (fun k => by rw [show ((i + 1 : Nat) : Int) - 1 = (i : Int) by omega]) ?_
    refine Ev.step (f := fun k => galoisref01_pack.l1 k l (d8 H).reverse (i : Int) (8 * ((4 : Nat) : Int) - 8)) (fun k => ?_) (rpack_l1 hd hl hV hi hD hle (ih _ (by omega) hds') 4 H (Nat.le_refl _) ?_)
    · simp only [galoisref01_pack.l0]
      rw [if_pos (by omega)]
      rfl
    · have hD32 : D < 4294967296 := by
        have h := (Dig_rd hd i hi).2
        rw [hD] at h
        exact Int.ofNat_lt.1 h
      simp
      omega
theorem rpack_ev {l : List Int} (hd : Dig B32 l) (hl : l.length ≤ 1099511627776) : Ev (fun k => galoisref01_pack.f k l) (nat (vB B32 l).toNat) := by
  have hv := vB_nonneg (show (0 : Int) ≤ B32 by decide) hd
  have hV : (nat (vB B32 l).toNat).size ≤ 4398046511104 := by
    have h : (nat (vB B32 l).toNat).size ≤ 4 * l.length := by
      apply nat_size_le.2
      have h1 := vB_lt (show (0 : Int) < B32 by decide) hd
      rw [Nat.pow_mul]
      have h2 : (((vB B32 l).toNat : Nat) : Int) < ((4294967296 ^ l.length : Nat) : Int) := by
        rw [Int.toNat_of_nonneg hv, Int.natCast_pow]
        exact h1
      exact Int.ofNat_lt.1 h2
    omega
  have e1 : wrap64 ((l.length : Int) - 1) = (l.length : Int) - 1 := w64 (by omega) (by omega)
  have := rpack_l0 hd hl hV (show vB B32 l = (((vB B32 l).toNat : Nat) : Int) by omega) l.length 0 (Nat.le_refl _) (by rw [List.drop_of_length_le (Nat.le_refl _)]; rfl)
  refine Ev.congr (fun k => ?_) this
  unfold galoisref01_pack.f
  rw [e1, show d8 0 = [] from dgs_zero _]
  rfl
end Go.Proofs.YtohkmnbnjacfaaaN
set_option linter.unusedVariables false
namespace Go.Proofs.YtohkmnbnjacfaaaN
open Go.RowKit Go.Proofs.Ytohkmnbnjacfaaa.All Go.Proofs.YtohkmnbnjacfaaaW.PrintWords Go.Proofs.YtohkmnbnjacfaaaW.PrintLast Go.Proofs.YtohkmnbnjacfaaaW.PrintMore
theorem and32 {x : Int} (h0 : 0 ≤ x) (h1 : x < 18446744073709551616) : Go.bits .and .u64 x 4294967295 = x % B32 := and_low h0 h1
end Go.Proofs.YtohkmnbnjacfaaaN
set_option linter.unusedVariables false
namespace Go.Proofs.YtohkmnbnjacfaaaN
open Go.RowKit Go.Proofs.Ytohkmnbnjacfaaa.All Go.Proofs.YtohkmnbnjacfaaaW.PrintWords Go.Proofs.YtohkmnbnjacfaaaW.PrintLast Go.Proofs.YtohkmnbnjacfaaaW.PrintMore
end Go.Proofs.YtohkmnbnjacfaaaN
set_option linter.unusedVariables false
namespace Go.Proofs.YtohkmnbnjacfaaaN
open Go.RowKit Go.Proofs.Ytohkmnbnjacfaaa.All Go.Proofs.YtohkmnbnjacfaaaW.PrintWords Go.Proofs.YtohkmnbnjacfaaaW.PrintLast Go.Proofs.YtohkmnbnjacfaaaW.PrintMore
end Go.Proofs.YtohkmnbnjacfaaaN
set_option linter.unusedVariables false
namespace Go.Proofs.YtohkmnbnjacfaaaN
open Go.RowKit Go.Proofs.Ytohkmnbnjacfaaa.All Go.Proofs.YtohkmnbnjacfaaaW.PrintWords Go.Proofs.YtohkmnbnjacfaaaW.PrintLast Go.Proofs.YtohkmnbnjacfaaaW.PrintMore
theorem win_small {s : ByteArray} (hs : s.size ≤ 8) {i : Nat} (hi : i < s.size) : 0 ≤ win s 0 i ∧ win s 0 i < 72057594037927936 := by
  obtain ⟨w0, w1⟩ := win_range s 0 i (Nat.zero_le _) (by omega)
  exact ⟨w0, Int.lt_of_lt_of_le w1 (pow_le_pow (B := 256) (by decide) (show i - 0 ≤ 7 by omega))⟩
theorem Uint_l0 (s : ByteArray) (hs : s.size ≤ 8) : ∀ (d i : Nat), i + d = s.size → Ev (fun k => natural_Uint.l0 k s (win s 0 i) (s.size : Int) (i : Int)) (bval s, 0) := by
  intro d
  induction d with
  | zero =>
    intro i hi
    have hi : i = s.size := by omega
    subst hi
    rw [win_all]
    refine Ev.step (f := fun _ => some (bval s, 0)) (fun k => ?_) (Ev.now _)
    simp only [natural_Uint.l0]
    rw [if_neg (Int.lt_irrefl _)]
  | succ d ih =>
    intro i hi
    have hi' : i < s.size := by omega
    have c1 : (i : Int) < (s.size : Int) := Int.ofNat_lt.2 hi'
    obtain ⟨w0, w1⟩ := win_small hs hi'
    obtain ⟨b0, b1⟩ := bt_range s (i : Int)
    have e1 : wrap64 ((i : Int) + 1) = ((i + 1 : Nat) : Int) := by rw [w64 (by omega) (by omega)]; omega
    have e2 : Go.bits .or .u64 (IntKind.u64.wrap (win s 0 i * 256)) (IntKind.u64.wrap (bt s (i : Int))) = win s 0 (i + 1) := by
      clear e1
      rw [win_succ s 0 i (Nat.zero_le _) hi', u64 (x := win s 0 i * 256) (by omega) (by omega), u64 (x := bt s (i : Int)) (by omega) (by omega)]
      exact bits_join .u64 64 (by decide) wraps_u64 8 (win s 0 i * 256) (bt s (i : Int)) (by omega) (by omega) (by omega) b0 (by omega) (by omega)
    refine Ev.step (f := fun k => natural_Uint.l0 k s (win s 0 (i + 1)) (s.size : Int) ((i + 1 : Nat) : Int)) (fun k => ?_) (ih (i + 1) (by clear e1 e2; omega))
    simp only [natural_Uint.l0, e1, e2]
    rw [if_pos c1, if_pos (Int.natCast_nonneg _), if_pos c1]
theorem rUint_l0 (s : ByteArray) (hs : s.size ≤ 8) : ∀ (d i : Nat), i + d = s.size → Ev (fun k => galoisref01_Uint.l0 k s (win s 0 i) (i : Int)) (bval s, true) := by
  intro d
  induction d with
  | zero =>
    intro i hi
    have hi : i = s.size := by omega
    subst hi
    rw [win_all]
    refine Ev.step (f := fun _ => some (bval s, true)) (fun k => ?_) (Ev.now _)
    simp only [galoisref01_Uint.l0]
    rw [if_neg (Int.lt_irrefl _)]
  | succ d ih =>
    intro i hi
    have hi' : i < s.size := by omega
    have c1 : (i : Int) < (s.size : Int) := Int.ofNat_lt.2 hi'
    obtain ⟨w0, w1⟩ := win_small hs hi'
    obtain ⟨b0, b1⟩ := bt_range s (i : Int)
    have e1 : wrap64 ((i : Int) + 1) = ((i + 1 : Nat) : Int) := by rw [w64 (by omega) (by omega)]; omega
    have e2 : IntKind.u64.wrap (IntKind.u64.wrap (win s 0 i * 256) + IntKind.u64.wrap (bt s (i : Int))) = win s 0 (i + 1) := by
      clear e1
      rw [win_succ s 0 i (Nat.zero_le _) hi', u64 (x := win s 0 i * 256) (by omega) (by omega), u64 (x := bt s (i : Int)) (by omega) (by omega), u64 (by omega) (by omega)]
    refine Ev.step (f := fun k => galoisref01_Uint.l0 k s (win s 0 (i + 1)) ((i + 1 : Nat) : Int)) (fun k => ?_) (ih (i + 1) (by clear e1 e2; omega))
    simp only [galoisref01_Uint.l0, e1, e2]
    rw [if_pos c1, if_pos (Int.natCast_nonneg _)]
theorem Uint_err {s : ByteArray} {e : Int} (he : chk s = e) (h : e ≠ 0) : Ev (fun k => natural_Uint.f k s) (0, e) := by
  have := first1 s
  rw [he] at this
  exact Ev.bind this (Ev.congr (fun k => if_neg h) (Ev.now _))
theorem Uint_ev {n : Nat} (hn : (nat n).size ≤ 1024) : Ev (fun k => natural_Uint.f k (nat n)) (if 8 < (nat n).size then (0, 3) else ((n : Int), 0)) := by
  have h := first1 (nat n)
  rw [chk_nat hn] at h
  refine Ev.bind h (Ev.congr (fun k => if_pos rfl) ?_)
  by_cases h8 : 8 < (nat n).size
  · rw [if_pos h8]
    exact Ev.congr (fun k => if_pos (show ((nat n).size : Int) > 8 by omega)) (Ev.now _)
  · rw [if_neg h8]
    refine Ev.congr (fun k => if_neg (show ¬ ((nat n).size : Int) > 8 by omega)) ?_
    have := Uint_l0 (nat n) (by omega) (nat n).size 0 (Nat.zero_add _)
    rw [win_self, bval_nat] at this
    exact this
theorem rUint_ev (s : ByteArray) : Ev (fun k => galoisref01_Uint.f k s) (if 8 < s.size then (0, false) else (bval s, true)) := by
  by_cases h8 : 8 < s.size
  · rw [if_pos h8]
    exact Ev.congr (fun k => if_pos (show (s.size : Int) > 8 by omega)) (Ev.now _)
  · rw [if_neg h8]
    refine Ev.congr (fun k => if_neg (show ¬ (s.size : Int) > 8 by omega)) ?_
    have := rUint_l0 s (by omega) s.size 0 (Nat.zero_add _)
    rw [win_self] at this
    exact this
theorem rOf_ev {u : Nat} (hu : u < 18446744073709551616) : Ev (fun k => galoisref01_Of.f k (u : Int)) (nat u) := by
  have a1 := and32 (x := (u : Int)) (by omega) (by omega)
  have hd : Dig B32 [(u : Int) % B32, (u : Int) / 4294967296] := Dig_cons.2 ⟨⟨Int.emod_nonneg _ (by decide), Int.emod_lt_of_pos _ (by decide)⟩, Dig_cons.2 ⟨⟨by omega, by show _ < (4294967296 : Int); omega⟩, Dig_nil _⟩⟩
  have p := rpack_ev hd (by simp)
  have hv : vB B32 [(u : Int) % B32, (u : Int) / 4294967296] = u := by
    show (u : Int) % 4294967296 + 4294967296 * ((u : Int) / 4294967296 + 4294967296 * 0) = u
    omega
  rw [hv, Int.toNat_natCast] at p
  refine Ev.congr (f := fun k => (galoisref01_pack.f k [(u : Int) % B32, (u : Int) / 4294967296]).bind fun t => some t) (fun k => ?_) (Ev.bind p (Ev.now _))
  unfold galoisref01_Of.f
  rw [a1]
theorem nat_word {n : Nat} : (nat n).size ≤ 8 ↔ n < 18446744073709551616 := nat_size_le
end Go.Proofs.YtohkmnbnjacfaaaN
set_option linter.unusedVariables false
namespace Go.Proofs.Ytohkmnbnjacfaaa.Pure
open Go.RowKit Go.Proofs.Ytohkmnbnjacfaaa.All Go.Proofs.YtohkmnbnjacfaaaN Go.Proofs.YtohkmnbnjacfaaaW.PrintWords Go.Proofs.YtohkmnbnjacfaaaW.PrintLast
theorem NaturalMachine : galoislaw01_NaturalMachine.Pure := by
  intro x s hx _
  have hx2 : 0 ≤ x ∧ x < 18446744073709551616 := by
    simp only [Lit.wf, Bool.and_eq_true, decide_eq_true_eq] at hx
    have e1 : IntKind.min .u64 = 0 := by decide
    have e2 : IntKind.max .u64 = 18446744073709551615 := by decide
    omega
  apply Ev.rounds
  have skip : Ev (fun k => galoislaw01_NaturalMachine.j0 k x s true) true :=
    Ev.step (f := fun k => (galoislaw01_awake.f k).bind fun t => some t) (fun k => rfl) (Ev.bind awake_ev (Ev.now _))
  refine Ev.bind awake_ev ?_
  refine Ev.congr (fun k => if_pos rfl) ?_
  by_cases h1 : (s.size : Int) > 1100
  · rw [decide_eq_true h1]
    exact skip
  rw [decide_eq_false h1]
  clear skip
  obtain ⟨u, rfl⟩ := Int.eq_ofNat_of_zero_le hx2.1
  have hu : u < 18446744073709551616 := by omega
  have hOf := Of_eq hu
  have su : (nat u).size ≤ 8 := nat_word.2 hu
  have back := Uint_ev (n := u) (by omega)
  rw [if_neg (show ¬ 8 < (nat u).size by omega)] at back
  refine Ev.step (fun k => rfl) ?_
  simp only [galoislaw01_NaturalMachine.j0, Bool.false_eq_true, if_false]
  refine ev_some hOf ?_
  refine Ev.bind back ?_
  by_cases h3 : ¬ chk s = 0
  · obtain ⟨e, he⟩ : ∃ e, chk s = e := ⟨_, rfl⟩
    have h3' : e ≠ 0 := by rw [← he]; exact h3
    refine Ev.bind (Uint_err he h3') ?_
    refine ev_some hOf (Ev.bind (rOf_ev hu) ?_)
    refine Ev.congr (fun k => if_pos rfl) (Ev.congr (fun k => if_pos rfl) ?_)
    refine Ev.step (fun k => rfl) ?_
    simp only [galoislaw01_NaturalMachine.j1, bne_self_eq_false, Bool.false_eq_true, if_false]
    refine ev_some (refCheck_eq s) ?_
    refine Ev.bind (rUint_ev s) ?_
    rw [he]
    refine Ev.congr (fun k => if_neg h3') ?_
    refine Ev.step (fun k => rfl) ?_
    simp only [galoislaw01_NaturalMachine.j2, Bool.false_eq_true, if_false]
    refine Ev.congr (fun k => if_neg h3') ?_
    refine Ev.congr (f := fun _ => some true) (fun k => ?_) (Ev.now _)
    simp
  replace h3 := Decidable.not_not.1 h3
  obtain ⟨n, rfl, sn⟩ := number h3
  refine Ev.bind (Uint_ev sn) ?_
  refine ev_some hOf (Ev.bind (rOf_ev hu) ?_)
  refine Ev.congr (fun k => if_pos rfl) (Ev.congr (fun k => if_pos rfl) ?_)
  refine Ev.step (fun k => rfl) ?_
  simp only [galoislaw01_NaturalMachine.j1, bne_self_eq_false, Bool.false_eq_true, if_false]
  refine ev_some (refCheck_eq (nat n)) ?_
  refine Ev.bind (rUint_ev (nat n)) ?_
  rw [h3]
  refine Ev.congr (fun k => if_pos rfl) ?_
  by_cases h8 : 8 < (nat n).size
  · rw [if_pos h8, if_pos h8]
    refine Ev.step (fun k => rfl) ?_
    refine Ev.congr (f := fun _ => some true) (fun k => ?_) (Ev.now _)
    simp [galoislaw01_NaturalMachine.j2]
  · rw [if_neg h8, if_neg h8, bval_nat]
    have hn : n < 18446744073709551616 := nat_word.1 (by omega)
    refine Ev.step (fun k => rfl) ?_
    simp only [galoislaw01_NaturalMachine.j2, Bool.not_true, Bool.false_eq_true, if_false]
    refine Ev.congr (fun k => if_pos trivial) (Ev.congr (fun k => if_pos trivial) (Ev.congr (fun k => if_pos trivial) ?_))
    refine ev_some (Of_eq hn) (Ev.congr (f := fun _ => some true) (fun k => ?_) (Ev.now _))
    simp
end Go.Proofs.Ytohkmnbnjacfaaa.Pure
