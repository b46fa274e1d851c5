/- Part of the proof of the statement RationalTexts: the statement itself, from the plain law and the walk. No hypothesis is added. -/
import Derived.Test.YtjllholdppjllaaGreatRows
import Derived.Test.YtjllholdppjllaaGreatKRationalTexts5
namespace Go.Proofs.YtjllholdppjllaaGreat.rationalTexts
open Go.ChangeShapes Go.WideShapes Go.ChangeAt Go.RowKit
open Go.ChangeMaps (open_string shut_string)
theorem own : ownKnob Tryz.prog.godebug = none := by kernel_rfl
set_option maxRecDepth 100000 in
theorem lifted (os : Os) (started : os.Started) (H : Type) (enc : TypeId × Value → H) :
    ReturnsInHanded {} Tryz.checked os 9 .any (Rows.rationalTextsSpec.pre6 enc Tryz.prog Tryz.f9 Rows.rationalTextsRow.domain false) (Rows.rationalTextsSpec.post enc Tryz.prog Tryz.f9 false true false false) := by
  refine returnsInHanded_of_change_sized (C := Tryz.checked) own started (by kernel_rfl) Tryz.func9
    (ChangeSpec.witness6 (enc := enc) (C := Tryz.checked) false ⟨#[], #[.agg #[.bool false, .string ByteArray.empty, .string ByteArray.empty], .string ByteArray.empty], []⟩ 8 (by kernel_rfl) (by kernel_rfl) (by kernel_rfl) (by kernel_rfl)) ?_
  intro W base args ds gs before hval0 hW hcnd hsz0 _
  have hval : ∀ (j : Nat) t v, Tryz.f9.params[j]? = some t → args[j]? = some v → Value.okWide Tryz.prog W .any base t v := hval0
  have hW' := hW
  obtain ⟨p, q, hA0, hV, rfl, hfz, hnd⟩ := hW
  have hA : DataW.TrodAll enc Tryz.prog W 0 (fun _ => true) true Tryz.f9.params.toList args.toList ds p := hA0
  rw [Tryz.params9] at hA hval
  obtain ⟨v0, vs0, d0, ds0, p0, q0, hargs, rfl, rfl, h0, r0⟩ := trodAll_cons hA
  obtain ⟨v1, vs1, d1, ds1, p1, q1, rfl, rfl, rfl, h1, r1⟩ := trodAll_cons r0
  obtain ⟨rfl, rfl, rfl⟩ := trodAll_nil r1
  obtain rfl : args = #[v0, v1] := by cases args; simp_all
  obtain ⟨rfl, rfl⟩ := trodVars_none hV
  obtain ⟨b0, c0, f0, y0_0, y0_1, y0_2, m0, n0, rfl, rfl, rfl, hy0_0, hy0_1, hy0_2⟩ := Go.Proofs.YtjllholdppjllaaGreatJ.open_rat (.mk Tryz.underlying26 Tryz.underlying24 (by kernel_rfl) (by kernel_rfl) (by kernel_rfl) (by kernel_rfl) (by kernel_rfl) rfl rfl rfl rfl) (hval 0 26 v0 rfl rfl) h0
  obtain ⟨a0_0, e0_0, rfl⟩ := DataW.trod_bool Tryz.underlying4 hy0_0
  obtain ⟨a0_1, e0_1, rfl, z0⟩ := DataW.trod_string Tryz.underlying22 hy0_1
  obtain ⟨a0_2, e0_2, rfl, u0⟩ := DataW.trod_string Tryz.underlying22 hy0_2
  simp at e0_0 e0_1 e0_2
  subst e0_0 e0_1 e0_2
  obtain ⟨a1, rfl, rfl, rfl, y1⟩ := open_string Tryz.underlying9 (hval 1 9 v1 rfl rfl) h1
  clear hA0 hval0 hsz0
  refine (Pure.RationalTexts a0_0 a0_1 a0_2 a1 W).mono fun e W' ⟨he, bel⟩ => ?_
  subst he
  exact ⟨_, rfl, _, _, _, [], _, [], hW', trodAll_mk1 (shut_bool Tryz.underlying4 _), (trodAll_cons_mk (Go.Proofs.YtjllholdppjllaaGreatJ.shut_rat (y0 := (.lit (.bool a0_0), [])) (y1 := (.lit (.string a0_1.data.toList), [])) (y2 := (.lit (.string a0_2.data.toList), [])) (.mk Tryz.underlying26 Tryz.underlying24 (by kernel_rfl) (by kernel_rfl) (by kernel_rfl) (by kernel_rfl) (by kernel_rfl) rfl rfl rfl rfl) (shut_bool Tryz.underlying4 a0_0) (shut_string Tryz.underlying22 z0) (shut_string Tryz.underlying22 u0)) (trodAll_cons_mk (shut_string Tryz.underlying9 y1) trodAll_mk0)), rfl, bel.frame _, fun h => by cases h⟩
theorem over : Rows.rationalTextsRow.holds Tryz.pinned (OpenSpec.ofChange Rows.rationalTextsSpec) :=
  OpenClaim.holds_of_wide 9 Tryz.f9 rfl rfl rfl rfl rfl rfl rfl ⟨rfl, rfl, rfl, rfl, rfl⟩ rfl rfl rfl rfl rfl (by kernel_rfl) Tryz.func9 (by kernel_rfl)
    (of_decide_eq_true (by kernel_rfl)) (by unfold Func.isWrapper; first | (rw [if_pos (by decide +kernel)]; kernel_rfl) | (rw [if_neg (by decide +kernel)]; exact ⟨rfl, rfl⟩))
    (fun os started H enc _ => lifted os started H enc)
theorem proved : Rows.RationalTextsSaid := over
end Go.Proofs.YtjllholdppjllaaGreat.rationalTexts
namespace Go.Proofs.YtjllholdppjllaaGreat
theorem rationalTexts_holds : Rows.RationalTextsSaid := rationalTexts.proved
end Go.Proofs.YtjllholdppjllaaGreat
