/- Part of the proof of the statement RationalMakes: the statement itself, from the plain law and the walk. No hypothesis is added. -/
import Derived.Test.YtjllholdppjllaaRows
import Derived.Test.YtjllholdppjllaaKRationalMakes5
namespace Go.Proofs.Ytjllholdppjllaa.rationalMakes
open Go.ChangeShapes Go.WideShapes Go.ChangeAt Go.RowKit
open Go.ChangeMaps (open_string shut_string)
theorem own : ownKnob Try.prog.godebug = none := by kernel_rfl
theorem cells25 : Try.prog.cellsOf 25 = 2 := by kernel_rfl
set_option maxRecDepth 100000 in
theorem lifted (os : Os) (started : os.Started) (H : Type) (enc : TypeId × Value → H) :
    ReturnsInHanded {} Try.checked os 3 .any (Rows.rationalMakesSpec.pre6 enc Try.prog Try.f3 Rows.rationalMakesRow.domain false) (Rows.rationalMakesSpec.post enc Try.prog Try.f3 false true false false) := by
  refine returnsInHanded_of_change_sized (C := Try.checked) own started (by kernel_rfl) Try.func3
    (ChangeSpec.witness6 (enc := enc) (C := Try.checked) false ⟨#[], #[.agg #[.int .i64 0, .int .i64 0], .agg #[.bool false, .string ByteArray.empty], .agg #[.bool false, .string ByteArray.empty]], []⟩ 8 (by kernel_rfl) (by kernel_rfl) (by kernel_rfl) (by kernel_rfl)) ?_
  intro W base args ds gs before hval0 hW hcnd hsz0 _
  have hval : ∀ (j : Nat) t v, Try.f3.params[j]? = some t → args[j]? = some v → Value.okWide Try.prog W .any base t v := hval0
  have hW' := hW
  obtain ⟨p, q, hA0, hV, rfl, hfz, hnd⟩ := hW
  have hA : DataW.TrodAll enc Try.prog W 0 (fun _ => true) true Try.f3.params.toList args.toList ds p := hA0
  rw [Try.params3] at hA hval
  obtain ⟨v0, vs0, d0, ds0, p0, q0, hargs, rfl, rfl, h0, r0⟩ := trodAll_cons hA
  obtain ⟨v1, vs1, d1, ds1, p1, q1, rfl, rfl, rfl, h1, r1⟩ := trodAll_cons r0
  obtain ⟨v2, vs2, d2, ds2, p2, q2, rfl, rfl, rfl, h2, r2⟩ := trodAll_cons r1
  obtain ⟨rfl, rfl, rfl⟩ := trodAll_nil r2
  obtain rfl : args = #[v0, v1, v2] := by cases args; simp_all
  obtain ⟨rfl, rfl⟩ := trodVars_none hV
  obtain ⟨a0_0, a0_1, rfl, rfl, rfl, w0_0, w0_1⟩ := Go.Proofs.YtjllholdppjllaaJ.open_pair (.mk Try.underlying22 Try.underlying3 (by kernel_rfl) (by kernel_rfl)) (hval 0 22 v0 rfl rfl) h0
  obtain ⟨b1, c1, y1_0, y1_1, m1, rfl, rfl, rfl, hy1_0, hy1_1⟩ := Go.Joins.open_agg2 Try.underlying25 (by kernel_rfl) cells25 (hval 1 25 v1 rfl rfl) h1
  obtain ⟨a1_0, e1_0, rfl⟩ := DataW.trod_bool Try.underlying4 hy1_0
  obtain ⟨a1_1, e1_1, rfl, z1⟩ := DataW.trod_string Try.underlying23 hy1_1
  simp at e1_0 e1_1
  subst e1_0 e1_1
  obtain ⟨b2, c2, y2_0, y2_1, m2, rfl, rfl, rfl, hy2_0, hy2_1⟩ := Go.Joins.open_agg2 Try.underlying25 (by kernel_rfl) cells25 (hval 2 25 v2 rfl rfl) h2
  obtain ⟨a2_0, e2_0, rfl⟩ := DataW.trod_bool Try.underlying4 hy2_0
  obtain ⟨a2_1, e2_1, rfl, z2⟩ := DataW.trod_string Try.underlying23 hy2_1
  simp at e2_0 e2_1
  subst e2_0 e2_1
  clear hA0 hval0 hsz0
  refine (Pure.RationalMakes a0_0 a0_1 w0_0 w0_1 a1_0 a1_1 a2_0 a2_1 W).mono fun e W' ⟨he, bel⟩ => ?_
  subst he
  exact ⟨_, rfl, _, _, _, [], _, [], hW', trodAll_mk1 (shut_bool Try.underlying4 _), (trodAll_cons_mk (Go.Proofs.YtjllholdppjllaaJ.shut_pair (.mk Try.underlying22 Try.underlying3 (by kernel_rfl) (by kernel_rfl)) w0_0 w0_1) (trodAll_cons_mk (Go.Joins.shut_agg2 (y0 := (.lit (.bool a1_0), [])) (y1 := (.lit (.string a1_1.data.toList), [])) Try.underlying25 (by kernel_rfl) cells25 (shut_bool Try.underlying4 a1_0) (shut_string Try.underlying23 z1)) (trodAll_cons_mk (Go.Joins.shut_agg2 (y0 := (.lit (.bool a2_0), [])) (y1 := (.lit (.string a2_1.data.toList), [])) Try.underlying25 (by kernel_rfl) cells25 (shut_bool Try.underlying4 a2_0) (shut_string Try.underlying23 z2)) trodAll_mk0))), rfl, bel.frame _, fun h => by cases h⟩
theorem over : Rows.rationalMakesRow.holds Try.pinned (OpenSpec.ofChange Rows.rationalMakesSpec) :=
  OpenClaim.holds_of_wide 3 Try.f3 rfl rfl rfl rfl rfl rfl rfl ⟨rfl, rfl, rfl, rfl, rfl⟩ rfl rfl rfl rfl rfl (by kernel_rfl) Try.func3 (by kernel_rfl)
    (of_decide_eq_true (by kernel_rfl)) (by unfold Func.isWrapper; first | (rw [if_pos (by decide +kernel)]; kernel_rfl) | (rw [if_neg (by decide +kernel)]; exact ⟨rfl, rfl⟩))
    (fun os started H enc _ => lifted os started H enc)
theorem proved : Rows.RationalMakesSaid := over
end Go.Proofs.Ytjllholdppjllaa.rationalMakes
namespace Go.Proofs.Ytjllholdppjllaa
theorem rationalMakes_holds : Rows.RationalMakesSaid := rationalMakes.proved
end Go.Proofs.Ytjllholdppjllaa
