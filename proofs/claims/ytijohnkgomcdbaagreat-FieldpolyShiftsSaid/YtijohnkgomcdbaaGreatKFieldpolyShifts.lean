/- Part of the proof of the statement FieldpolyShifts: the statement itself, from the plain law and the walk. No hypothesis is added. -/
import Derived.Test.YtijohnkgomcdbaaGreatRows
import Derived.Test.YtijohnkgomcdbaaGreatKFieldpolyShifts6
namespace Go.Proofs.YtijohnkgomcdbaaGreat.fieldpolyShifts
open Go.ChangeShapes Go.WideShapes Go.ChangeAt Go.RowKit
open Go.ChangeMaps (open_string shut_string)
theorem own : ownKnob Tryz.prog.godebug = none := by kernel_rfl
theorem laidOut : laidOutB Tryz.prog = true := by kernel_rfl
set_option maxRecDepth 100000 in
theorem lifted (os : Os) (started : os.Started) (H : Type) (enc : TypeId × Value → H) :
    ReturnsInHanded {} Tryz.checked os 8 .any (Rows.fieldpolyShiftsSpec.pre6 enc Tryz.prog Tryz.f8 Rows.fieldpolyShiftsRow.domain false) (Rows.fieldpolyShiftsSpec.post enc Tryz.prog Tryz.f8 false true false false) := by
  refine returnsInHanded_of_change_sized (C := Tryz.checked) own started (by kernel_rfl) Tryz.func8
    (ChangeSpec.witness6 (enc := enc) (C := Tryz.checked) false ⟨#[], #[.agg #[.slice none 0 0], .slice none 0 0, .slice none 0 0], []⟩ 8 (by kernel_rfl) (by kernel_rfl) (by kernel_rfl) (by kernel_rfl)) ?_
  intro W base args ds gs before hval0 hW hcnd hsz0 _
  have hval : ∀ (j : Nat) t v, Tryz.f8.params[j]? = some t → args[j]? = some v → Value.okWide Tryz.prog W .any base t v := hval0
  have hW' := hW
  obtain ⟨p, q, hA0, hV, rfl, hfz, hnd⟩ := hW
  have hA : DataW.TrodAll enc Tryz.prog W 0 (fun _ => true) true Tryz.f8.params.toList args.toList ds p := hA0
  rw [Tryz.params8] at hA hval
  obtain ⟨v0, vs0, d0, ds0, p0, q0, hargs, rfl, rfl, h0, r0⟩ := trodAll_cons hA
  obtain ⟨v1, vs1, d1, ds1, p1, q1, rfl, rfl, rfl, h1, r1⟩ := trodAll_cons r0
  obtain ⟨v2, vs2, d2, ds2, p2, q2, rfl, rfl, rfl, h2, r2⟩ := trodAll_cons r1
  obtain ⟨rfl, rfl, rfl⟩ := trodAll_nil r2
  obtain rfl : args = #[v0, v1, v2] := by cases args; simp_all
  obtain ⟨rfl, rfl⟩ := trodVars_none hV
  obtain ⟨a0, s0⟩ := Go.Proofs.YtijohnkgomcdbaaGreatJ.at_struct Tryz.underlying25 (open Go.Proofs.YtijohnkgomcdbaaGreatJ in (E3a Tryz.underlying25 (by kernel_rfl) (by kernel_rfl) (B5x Tryz.underlying23 (by kernel_rfl) (by decide) (B1z Tryz.underlying44 (by kernel_rfl) (by kernel_rfl) (by kernel_rfl) (B1z Tryz.underlying42 (by kernel_rfl) (by kernel_rfl) (by kernel_rfl) (C8H Tryz.underlying4) (B0I Tryz.underlying40)) (B0I Tryz.underlying40))))) (hval 0 25 v0 rfl rfl) h0
  obtain ⟨a1, s1⟩ := Go.Proofs.YtijohnkgomcdbaaGreatJ.at_slice Tryz.underlying27 (open Go.Proofs.YtijohnkgomcdbaaGreatJ in (B5x Tryz.underlying27 (by kernel_rfl) (by decide) (B5x Tryz.underlying23 (by kernel_rfl) (by decide) (B1z Tryz.underlying44 (by kernel_rfl) (by kernel_rfl) (by kernel_rfl) (B1z Tryz.underlying42 (by kernel_rfl) (by kernel_rfl) (by kernel_rfl) (C8H Tryz.underlying4) (B0I Tryz.underlying40)) (B0I Tryz.underlying40))))) (hval 1 27 v1 rfl rfl) h1
  obtain ⟨a2, s2⟩ := Go.Proofs.YtijohnkgomcdbaaGreatJ.at_slice Tryz.underlying23 (open Go.Proofs.YtijohnkgomcdbaaGreatJ in (B5x Tryz.underlying23 (by kernel_rfl) (by decide) (B1z Tryz.underlying44 (by kernel_rfl) (by kernel_rfl) (by kernel_rfl) (B1z Tryz.underlying42 (by kernel_rfl) (by kernel_rfl) (by kernel_rfl) (C8H Tryz.underlying4) (B0I Tryz.underlying40)) (B0I Tryz.underlying40)))) (hval 2 23 v2 rfl rfl) h2
  clear hA0 hval0 hsz0
  refine (Pure.FieldpolyShifts a0 a1 a2 W s0 s1 s2).mono fun e W' ⟨he, bel⟩ => ?_
  subst he
  exact ⟨_, rfl, _, _, _, [], _, [], hW', trodAll_mk1 (shut_bool Tryz.underlying4 _), (trodAll_cons_mk (Go.Proofs.YtijohnkgomcdbaaGreatJ.again laidOut (by kernel_rfl) (of_decide_eq_true (by kernel_rfl)) h0 bel (fun x hx => hW'.lt x (by simp [hx]))) (trodAll_cons_mk (Go.Proofs.YtijohnkgomcdbaaGreatJ.again laidOut (by kernel_rfl) (of_decide_eq_true (by kernel_rfl)) h1 bel (fun x hx => hW'.lt x (by simp [hx]))) (trodAll_cons_mk (Go.Proofs.YtijohnkgomcdbaaGreatJ.again laidOut (by kernel_rfl) (of_decide_eq_true (by kernel_rfl)) h2 bel (fun x hx => hW'.lt x (by simp [hx]))) trodAll_mk0))), rfl, bel.frame _, fun h => by cases h⟩
theorem over : Rows.fieldpolyShiftsRow.holds Tryz.pinned (OpenSpec.ofChange Rows.fieldpolyShiftsSpec) :=
  OpenClaim.holds_of_wide 8 Tryz.f8 rfl rfl rfl rfl rfl rfl rfl ⟨rfl, rfl, rfl, rfl, rfl⟩ rfl rfl rfl rfl rfl (by kernel_rfl) Tryz.func8 (by kernel_rfl)
    (of_decide_eq_true (by kernel_rfl)) (by unfold Func.isWrapper; first | (rw [if_pos (by decide +kernel)]; kernel_rfl) | (rw [if_neg (by decide +kernel)]; exact ⟨rfl, rfl⟩))
    (fun os started H enc _ => lifted os started H enc)
theorem proved : Rows.FieldpolyShiftsSaid := over
end Go.Proofs.YtijohnkgomcdbaaGreat.fieldpolyShifts
namespace Go.Proofs.YtijohnkgomcdbaaGreat
theorem fieldpolyShifts_holds : Rows.FieldpolyShiftsSaid := fieldpolyShifts.proved
end Go.Proofs.YtijohnkgomcdbaaGreat
