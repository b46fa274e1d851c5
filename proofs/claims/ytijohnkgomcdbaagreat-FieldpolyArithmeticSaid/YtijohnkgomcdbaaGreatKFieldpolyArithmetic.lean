/- Part of the proof of the statement FieldpolyArithmetic: the statement itself, from the plain law and the walk. No hypothesis is added. -/
import Derived.Test.YtijohnkgomcdbaaGreatRows
import Derived.Test.YtijohnkgomcdbaaGreatKFieldpolyArithmetic6
namespace Go.Proofs.YtijohnkgomcdbaaGreat.fieldpolyArithmetic
open Go.ChangeShapes Go.WideShapes Go.ChangeAt Go.RowKit
open Go.ChangeMaps (open_string shut_string)
theorem own : ownKnob Tryz.prog.godebug = none := by kernel_rfl
theorem laidOut : laidOutB Tryz.prog = true := by kernel_rfl
set_option maxRecDepth 100000 in
theorem lifted (os : Os) (started : os.Started) (H : Type) (enc : TypeId × Value → H) :
    ReturnsInHanded {} Tryz.checked os 10 .any (Rows.fieldpolyArithmeticSpec.pre6 enc Tryz.prog Tryz.f10 Rows.fieldpolyArithmeticRow.domain false) (Rows.fieldpolyArithmeticSpec.post enc Tryz.prog Tryz.f10 false true false false) := by
  refine returnsInHanded_of_change_sized (C := Tryz.checked) own started (by kernel_rfl) Tryz.func10
    (ChangeSpec.witness6 (enc := enc) (C := Tryz.checked) false ⟨#[], #[.agg #[.slice none 0 0], .slice none 0 0, .slice none 0 0], []⟩ 8 (by kernel_rfl) (by kernel_rfl) (by kernel_rfl) (by kernel_rfl)) ?_
  intro W base args ds gs before hval0 hW hcnd hsz0 _
  have hval : ∀ (j : Nat) t v, Tryz.f10.params[j]? = some t → args[j]? = some v → Value.okWide Tryz.prog W .any base t v := hval0
  have hW' := hW
  obtain ⟨p, q, hA0, hV, rfl, hfz, hnd⟩ := hW
  have hA : DataW.TrodAll enc Tryz.prog W 0 (fun _ => true) true Tryz.f10.params.toList args.toList ds p := hA0
  rw [Tryz.params10] at hA hval
  obtain ⟨v0, vs0, d0, ds0, p0, q0, hargs, rfl, rfl, h0, r0⟩ := trodAll_cons hA
  obtain ⟨v1, vs1, d1, ds1, p1, q1, rfl, rfl, rfl, h1, r1⟩ := trodAll_cons r0
  obtain ⟨v2, vs2, d2, ds2, p2, q2, rfl, rfl, rfl, h2, r2⟩ := trodAll_cons r1
  obtain ⟨rfl, rfl, rfl⟩ := trodAll_nil r2
  obtain rfl : args = #[v0, v1, v2] := by cases args; simp_all
  obtain ⟨rfl, rfl⟩ := trodVars_none hV
  obtain ⟨a0, s0⟩ := Go.Proofs.YtijohnkgomcdbaaGreatJ.at_struct Tryz.underlying25 (open Go.Proofs.YtijohnkgomcdbaaGreatJ in (E4o Tryz.underlying25 (by kernel_rfl) (by kernel_rfl) (B3E Tryz.underlying23 (by kernel_rfl) (by decide) (B2A Tryz.underlying44 (by kernel_rfl) (by kernel_rfl) (by kernel_rfl) (B2A Tryz.underlying42 (by kernel_rfl) (by kernel_rfl) (by kernel_rfl) (C4b Tryz.underlying4) (B1b Tryz.underlying40)) (B1b Tryz.underlying40))))) (hval 0 25 v0 rfl rfl) h0
  obtain ⟨a1, s1⟩ := Go.Proofs.YtijohnkgomcdbaaGreatJ.at_slice Tryz.underlying27 (open Go.Proofs.YtijohnkgomcdbaaGreatJ in (B3E Tryz.underlying27 (by kernel_rfl) (by decide) (B3E Tryz.underlying23 (by kernel_rfl) (by decide) (B2A Tryz.underlying44 (by kernel_rfl) (by kernel_rfl) (by kernel_rfl) (B2A Tryz.underlying42 (by kernel_rfl) (by kernel_rfl) (by kernel_rfl) (C4b Tryz.underlying4) (B1b Tryz.underlying40)) (B1b Tryz.underlying40))))) (hval 1 27 v1 rfl rfl) h1
  obtain ⟨a2, s2⟩ := Go.Proofs.YtijohnkgomcdbaaGreatJ.at_slice Tryz.underlying27 (open Go.Proofs.YtijohnkgomcdbaaGreatJ in (B3E Tryz.underlying27 (by kernel_rfl) (by decide) (B3E Tryz.underlying23 (by kernel_rfl) (by decide) (B2A Tryz.underlying44 (by kernel_rfl) (by kernel_rfl) (by kernel_rfl) (B2A Tryz.underlying42 (by kernel_rfl) (by kernel_rfl) (by kernel_rfl) (C4b Tryz.underlying4) (B1b Tryz.underlying40)) (B1b Tryz.underlying40))))) (hval 2 27 v2 rfl rfl) h2
  clear hA0 hval0 hsz0
  refine (Pure.FieldpolyArithmetic a0 a1 a2 W s0 s1 s2).mono fun e W' ⟨he, bel⟩ => ?_
  subst he
  exact ⟨_, rfl, _, _, _, [], _, [], hW', trodAll_mk1 (shut_bool Tryz.underlying4 _), (trodAll_cons_mk (Go.Proofs.YtijohnkgomcdbaaGreatJ.again laidOut (by kernel_rfl) (of_decide_eq_true (by kernel_rfl)) h0 bel (fun x hx => hW'.lt x (by simp [hx]))) (trodAll_cons_mk (Go.Proofs.YtijohnkgomcdbaaGreatJ.again laidOut (by kernel_rfl) (of_decide_eq_true (by kernel_rfl)) h1 bel (fun x hx => hW'.lt x (by simp [hx]))) (trodAll_cons_mk (Go.Proofs.YtijohnkgomcdbaaGreatJ.again laidOut (by kernel_rfl) (of_decide_eq_true (by kernel_rfl)) h2 bel (fun x hx => hW'.lt x (by simp [hx]))) trodAll_mk0))), rfl, bel.frame _, fun h => by cases h⟩
theorem over : Rows.fieldpolyArithmeticRow.holds Tryz.pinned (OpenSpec.ofChange Rows.fieldpolyArithmeticSpec) :=
  OpenClaim.holds_of_wide 10 Tryz.f10 rfl rfl rfl rfl rfl rfl rfl ⟨rfl, rfl, rfl, rfl, rfl⟩ rfl rfl rfl rfl rfl (by kernel_rfl) Tryz.func10 (by kernel_rfl)
    (of_decide_eq_true (by kernel_rfl)) (by unfold Func.isWrapper; first | (rw [if_pos (by decide +kernel)]; kernel_rfl) | (rw [if_neg (by decide +kernel)]; exact ⟨rfl, rfl⟩))
    (fun os started H enc _ => lifted os started H enc)
theorem proved : Rows.FieldpolyArithmeticSaid := over
end Go.Proofs.YtijohnkgomcdbaaGreat.fieldpolyArithmetic
namespace Go.Proofs.YtijohnkgomcdbaaGreat
theorem fieldpolyArithmetic_holds : Rows.FieldpolyArithmeticSaid := fieldpolyArithmetic.proved
end Go.Proofs.YtijohnkgomcdbaaGreat
