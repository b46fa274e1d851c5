/- Part of the proof of the statement IntegerSigns: lemmas on the model's steps, Lean functions that say what the program's functions compute, and proofs that the calls do just that. No hypothesis is added. -/
import Derived.Test.YtdhdfcjpeflinaaKIntegerSigns3
set_option linter.all false
set_option linter.unusedVariables false
set_option linter.unusedSimpArgs false
set_option maxRecDepth 100000
namespace Go.Proofs.YtdhdfcjpeflinaaV
open Go Go.RowKit Go.Proofs.Ytdhdfcjpeflinaa Go.Proofs.YtdhdfcjpeflinaaE Go.Proofs.YtdhdfcjpeflinaaW.PrintWords Go.Proofs.YtdhdfcjpeflinaaW.PrintLast Go.Proofs.YtdhdfcjpeflinaaW.PrintMore
theorem b133l1 (k : Nat) (x1 : (List Int)) (x5 : Int) (x6 : Int) (x11 : Int) (x12 : Int) (x104 : Int) (x105 : Int) (y0 : (List Int)) : LeO (All.exact_step.l1 (k + 1) y0 x1 x5 x6 x11 x12 x104 x105) (B133l1 (GX133l1 k) (GX133l2 k) (FX121 k) (FX122 k) (FX134 k) x1 x5 x6 x11 x12 x104 x105 y0) := by
 rw [All.exact_step.l1]
 unfold B133l1
 (try simp only [GX133l0, GX133l1, GX133l2, FX121, FX122, FX129, FX134, All.integer_zero.f, All.exact_stepAt.f, All.S24.f0, All.S24.f1, All.rd_T24, All.z24])
 (try simp only [List.take_append_drop, List.drop_length, List.append_nil, Int.zero_sub, Int.toNat_natCast, Int.reduceToNat, Int.zero_add, List.take_zero, List.nil_append, List.append_assoc, List.length_set, ite_bind_, List.take_left, BAe, bne, decide_int_eq, decide_not, wrap_mod, if_true, if_false, Bool.false_eq_true, bind_assoc_, slice_def, List.drop_zero, List.take_length, wrap_u8, bind_some_, cnd_eq_if, rdOf, ite_not, Bool.and_eq_true, Bool.or_eq_true, Bool.not_eq_true', bfalse, Bool.not_eq_false', beq_iff_eq, decide_eq_true_eq, isEmpty_eq, ite_and_, ite_or_, ne_eq, toList_mk, List.toList_toArray])
 repeat' first
 | (with_reducible refine LeO.trans ((All.exact_step.mono_l k).1 _ _ _ _ _ _) ?_; rw [All.exact_step.j0]; (try simp only [if_true, if_false, decide_eq_true_eq, Bool.false_eq_true, decide_not, ite_not, bne, decide_int_eq, beq_iff_eq, Bool.not_eq_true', bfalse, toList_mk, List.toList_toArray, ite_and_, ite_or_, Bool.and_eq_true, Bool.or_eq_true, isEmpty_eq, wrap_mod, wrap_u8, All.integer_zero.f, bind_some_, Int.toNat_natCast, Int.reduceToNat, Int.zero_sub, BAe]))
 | (with_reducible refine LeO.trans ((All.exact_step.mono_l k).2.1 _ _ _ _) ?_; rw [All.exact_step.j2]; (try simp only [if_true, if_false, decide_eq_true_eq, Bool.false_eq_true, decide_not, ite_not, bne, decide_int_eq, beq_iff_eq, Bool.not_eq_true', bfalse, toList_mk, List.toList_toArray, ite_and_, ite_or_, Bool.and_eq_true, Bool.or_eq_true, isEmpty_eq, wrap_mod, wrap_u8, All.integer_zero.f, bind_some_, Int.toNat_natCast, Int.reduceToNat, Int.zero_sub, BAe]))
 | (with_reducible exact LeO.none _)
 | (with_reducible exact LeO.refl _)
 | (with_reducible refine LeO.posR (by with_reducible assumption) ?_)
 | (with_reducible refine LeO.negR (by with_reducible assumption) ?_)
 | (with_reducible refine LeO.bindR (by with_reducible assumption) ?_)
 | (with_reducible refine LeO.posL (by with_reducible assumption) ?_)
 | (with_reducible refine LeO.negL (by with_reducible assumption) ?_)
 | (with_reducible refine LeO.iteL (fun _ => ?_) (fun _ => ?_))
 | (with_reducible refine LeO.bindK (by with_reducible assumption) ?_)
 | (with_reducible refine LeO.bindL (fun _ _ => ?_))
 | (refine LeO.posR (by first | decide | exact Int.le_refl _ | omega | assumption) ?_)
 | (refine LeO.negR (by first | decide | omega) ?_)
theorem b133l2 (k : Nat) (x1 : (List Int)) (x5 : Int) (x6 : Int) (x17 : Int) (x156 : Int) (x157 : Int) (y0 : (List Int)) : LeO (All.exact_step.l2 (k + 1) y0 x1 x5 x6 x17 x156 x157) (B133l2 (GX133l2 k) (FX121 k) x1 x5 x6 x17 x156 x157 y0) := by
 rw [All.exact_step.l2]
 unfold B133l2
 (try simp only [GX133l0, GX133l1, GX133l2, FX121, FX122, FX129, FX134, All.integer_zero.f, All.exact_stepAt.f, All.S24.f0, All.S24.f1, All.rd_T24, All.z24])
 (try simp only [List.take_append_drop, List.drop_length, List.append_nil, Int.zero_sub, Int.toNat_natCast, Int.reduceToNat, Int.zero_add, List.take_zero, List.nil_append, List.append_assoc, List.length_set, ite_bind_, List.take_left, BAe, bne, decide_int_eq, decide_not, wrap_mod, if_true, if_false, Bool.false_eq_true, bind_assoc_, slice_def, List.drop_zero, List.take_length, wrap_u8, bind_some_, cnd_eq_if, rdOf, ite_not, Bool.and_eq_true, Bool.or_eq_true, Bool.not_eq_true', bfalse, Bool.not_eq_false', beq_iff_eq, decide_eq_true_eq, isEmpty_eq, ite_and_, ite_or_, ne_eq, toList_mk, List.toList_toArray])
 repeat' first
 | (with_reducible refine LeO.trans ((All.exact_step.mono_l k).1 _ _ _ _ _ _) ?_; rw [All.exact_step.j0]; (try simp only [if_true, if_false, decide_eq_true_eq, Bool.false_eq_true, decide_not, ite_not, bne, decide_int_eq, beq_iff_eq, Bool.not_eq_true', bfalse, toList_mk, List.toList_toArray, ite_and_, ite_or_, Bool.and_eq_true, Bool.or_eq_true, isEmpty_eq, wrap_mod, wrap_u8, All.integer_zero.f, bind_some_, Int.toNat_natCast, Int.reduceToNat, Int.zero_sub, BAe]))
 | (with_reducible refine LeO.trans ((All.exact_step.mono_l k).2.1 _ _ _ _) ?_; rw [All.exact_step.j2]; (try simp only [if_true, if_false, decide_eq_true_eq, Bool.false_eq_true, decide_not, ite_not, bne, decide_int_eq, beq_iff_eq, Bool.not_eq_true', bfalse, toList_mk, List.toList_toArray, ite_and_, ite_or_, Bool.and_eq_true, Bool.or_eq_true, isEmpty_eq, wrap_mod, wrap_u8, All.integer_zero.f, bind_some_, Int.toNat_natCast, Int.reduceToNat, Int.zero_sub, BAe]))
 | (with_reducible exact LeO.none _)
 | (with_reducible exact LeO.refl _)
 | (with_reducible refine LeO.posR (by with_reducible assumption) ?_)
 | (with_reducible refine LeO.negR (by with_reducible assumption) ?_)
 | (with_reducible refine LeO.bindR (by with_reducible assumption) ?_)
 | (with_reducible refine LeO.posL (by with_reducible assumption) ?_)
 | (with_reducible refine LeO.negL (by with_reducible assumption) ?_)
 | (with_reducible refine LeO.iteL (fun _ => ?_) (fun _ => ?_))
 | (with_reducible refine LeO.bindK (by with_reducible assumption) ?_)
 | (with_reducible refine LeO.bindL (fun _ _ => ?_))
 | (refine LeO.posR (by first | decide | exact Int.le_refl _ | omega | assumption) ?_)
 | (refine LeO.negR (by first | decide | omega) ?_)
theorem b133 (k : Nat) (x1 : (List Int)) (y0 : (List Int)) : LeO (FX133 k x1 y0) (B133 (GX133l0 k) (FX121 k) (FX129 k) x1 y0) := by
 show LeO (All.exact_step.f k y0 x1) _
 unfold All.exact_step.f
 unfold B133
 (try simp only [GX133l0, GX133l1, GX133l2, FX121, FX122, FX129, FX134, All.integer_zero.f, All.exact_stepAt.f, All.S24.f0, All.S24.f1, All.rd_T24, All.z24])
 (try simp only [List.take_append_drop, List.drop_length, List.append_nil, Int.zero_sub, Int.toNat_natCast, Int.reduceToNat, Int.zero_add, List.take_zero, List.nil_append, List.append_assoc, List.length_set, ite_bind_, List.take_left, BAe, bne, decide_int_eq, decide_not, wrap_mod, if_true, if_false, Bool.false_eq_true, bind_assoc_, slice_def, List.drop_zero, List.take_length, wrap_u8, bind_some_, cnd_eq_if, rdOf, ite_not, Bool.and_eq_true, Bool.or_eq_true, Bool.not_eq_true', bfalse, Bool.not_eq_false', beq_iff_eq, decide_eq_true_eq, isEmpty_eq, ite_and_, ite_or_, ne_eq, toList_mk, List.toList_toArray])
 repeat' first
 | (with_reducible refine LeO.trans ((All.exact_step.mono_l k).1 _ _ _ _ _ _) ?_; rw [All.exact_step.j0]; (try simp only [if_true, if_false, decide_eq_true_eq, Bool.false_eq_true, decide_not, ite_not, bne, decide_int_eq, beq_iff_eq, Bool.not_eq_true', bfalse, toList_mk, List.toList_toArray, ite_and_, ite_or_, Bool.and_eq_true, Bool.or_eq_true, isEmpty_eq, wrap_mod, wrap_u8, All.integer_zero.f, bind_some_, Int.toNat_natCast, Int.reduceToNat, Int.zero_sub, BAe]))
 | (with_reducible refine LeO.trans ((All.exact_step.mono_l k).2.1 _ _ _ _) ?_; rw [All.exact_step.j2]; (try simp only [if_true, if_false, decide_eq_true_eq, Bool.false_eq_true, decide_not, ite_not, bne, decide_int_eq, beq_iff_eq, Bool.not_eq_true', bfalse, toList_mk, List.toList_toArray, ite_and_, ite_or_, Bool.and_eq_true, Bool.or_eq_true, isEmpty_eq, wrap_mod, wrap_u8, All.integer_zero.f, bind_some_, Int.toNat_natCast, Int.reduceToNat, Int.zero_sub, BAe]))
 | (with_reducible exact LeO.none _)
 | (with_reducible exact LeO.refl _)
 | (with_reducible refine LeO.posR (by with_reducible assumption) ?_)
 | (with_reducible refine LeO.negR (by with_reducible assumption) ?_)
 | (with_reducible refine LeO.bindR (by with_reducible assumption) ?_)
 | (with_reducible refine LeO.posL (by with_reducible assumption) ?_)
 | (with_reducible refine LeO.negL (by with_reducible assumption) ?_)
 | (with_reducible refine LeO.iteL (fun _ => ?_) (fun _ => ?_))
 | (with_reducible refine LeO.bindK (by with_reducible assumption) ?_)
 | (with_reducible refine LeO.bindL (fun _ _ => ?_))
 | (refine LeO.posR (by first | decide | exact Int.le_refl _ | omega | assumption) ?_)
 | (refine LeO.negR (by first | decide | omega) ?_)
theorem ok133 (k : Nat) : FeOk Go.Proofs.Try.prog (fe133 (FX133 k)) :=
 fe_ok EOK HM (es := fun k => fes133 (FX121 k) (FX122 k) (FX129 k) (FX134 k)) (fun k => List.forall_mem_cons.2 ⟨ok121 k, List.forall_mem_cons.2 ⟨ok122 k, List.forall_mem_cons.2 ⟨ok129 k, List.forall_mem_cons.2 ⟨ok134 k, List.forall_mem_nil _⟩⟩⟩⟩) (N := 186) (an := an133) (c := cd133) (f := 133) (fn := Go.Proofs.Try.f133) (rms := rm133) (ask := ask133) (rsk := rsk133) (enc := enc133) (dec := dec133) (tbl := [p133.getD 0 ⟨0, [], .skip⟩, p133.getD 1 ⟨0, [], .skip⟩, p133.getD 2 ⟨0, [], .skip⟩]) (fun s => rfl) Go.Proofs.Try.func133 (by kernel_rfl) (by kernel_rfl) (by kernel_rfl) (fun k => les133 (GX133l0 k) (GX133l1 k) (GX133l2 k))
  (List.forall_mem_cons.2 ⟨fun s => rfl, List.forall_mem_cons.2 ⟨fun s => rfl, List.forall_mem_cons.2 ⟨fun s => rfl, List.forall_mem_nil _⟩⟩⟩) (fun k s0 => .cons (by kernel_rfl) (by kernel_rfl) (fun s r h => (e133l0 (GX133l0 k) (GX133l1 k) (GX133l2 k) (FX121 k) (FX122 k) (FX129 k) (FX134 k) s0 s).trans (b133l0 k s.1.1 s.1.2.1 s.1.2.2.1 s.1.2.2.2.1 s.1.2.2.2.2.1 s.2.1 r h)) (.cons (by kernel_rfl) (by kernel_rfl) (fun s r h => (e133l1 (GX133l0 k) (GX133l1 k) (GX133l2 k) (FX121 k) (FX122 k) (FX129 k) (FX134 k) s0 s).trans (b133l1 k s.1.1 s.1.2.1 s.1.2.2.1 s.1.2.2.2.1 s.1.2.2.2.2.1 s.1.2.2.2.2.2.1 s.1.2.2.2.2.2.2.1 s.2.1 r h)) (.cons (by kernel_rfl) (by kernel_rfl) (fun s r h => (e133l2 (GX133l0 k) (GX133l1 k) (GX133l2 k) (FX121 k) (FX122 k) (FX129 k) (FX134 k) s0 s).trans (b133l2 k s.1.1 s.1.2.1 s.1.2.2.1 s.1.2.2.2.1 s.1.2.2.2.2.1 s.1.2.2.2.2.2.1 s.2.1 r h)) (.nil))))
  (F := fun k s => FX133 k s.1.1 s.2.1) (fun k s r h => (e133 (GX133l0 k) (GX133l1 k) (GX133l2 k) (FX121 k) (FX122 k) (FX129 k) (FX134 k) s).trans (b133 k s.1.1 s.2.1 r h)) k
@[reducible] noncomputable def GX118l0 (k : Nat) (x0 : (List Int)) (x1 : (List Int)) (x7 : Int) (x8 : Int) (x6 : (List Int)) : Option R118 := All.exact_divide.l0 k x0 x1 x6 x7 x8
@[reducible] noncomputable def GX118l1 (k : Nat) (x9 : Int) (x10 : (List Int)) (x12 : Int) (x14 : Int) (x11 : (List Int)) (x13 : (List Int)) : Option R118 := All.exact_divide.l1 k x9 x10 x11 x12 x13 x14
@[reducible] noncomputable def GX118l2 (k : Nat) (x9 : Int) (x12 : Int) (x96 : Int) (x97 : Int) (x11 : (List Int)) (x13 : (List Int)) : Option R118 := All.exact_divide.l2 k x9 x11 x12 x13 x96 x97
theorem b118l0 (k : Nat) (x0 : (List Int)) (x1 : (List Int)) (x7 : Int) (x8 : Int) (x6 : (List Int)) : LeO (All.exact_divide.l0 (k + 1) x0 x1 x6 x7 x8) (B118l0 (GX118l0 k) (FX129 k) (FX130 k) x0 x1 x7 x8 x6) := by rw [All.exact_divide.l0]; unfold B118l0; (try simp only [GX118l0, GX118l1, GX118l2, FX128, FX129, FX130, FX131, FX132, FX133, All.integer_zero.f, All.exact_stepAt.f, All.S24.f0, All.S24.f1, All.rd_T24, All.z24]); exact BR
theorem b118l1 (k : Nat) (x9 : Int) (x10 : (List Int)) (x12 : Int) (x14 : Int) (x11 : (List Int)) (x13 : (List Int)) : LeO (All.exact_divide.l1 (k + 1) x9 x10 x11 x12 x13 x14) (B118l1 (GX118l1 k) (GX118l2 k) (FX133 k) x9 x10 x12 x14 x11 x13) := by rw [All.exact_divide.l1]; unfold B118l1; (try simp only [GX118l0, GX118l1, GX118l2, FX128, FX129, FX130, FX131, FX132, FX133, All.integer_zero.f, All.exact_stepAt.f, All.S24.f0, All.S24.f1, All.rd_T24, All.z24]); exact BR
theorem b118l2 (k : Nat) (x9 : Int) (x12 : Int) (x96 : Int) (x97 : Int) (x11 : (List Int)) (x13 : (List Int)) : LeO (All.exact_divide.l2 (k + 1) x9 x11 x12 x13 x96 x97) (B118l2 (GX118l2 k) (FX130 k) x9 x12 x96 x97 x11 x13) := by rw [All.exact_divide.l2]; unfold B118l2; (try simp only [GX118l0, GX118l1, GX118l2, FX128, FX129, FX130, FX131, FX132, FX133, All.integer_zero.f, All.exact_stepAt.f, All.S24.f0, All.S24.f1, All.rd_T24, All.z24]); exact BR
theorem b118 (k : Nat) (x0 : (List Int)) (x1 : (List Int)) : LeO (FX118 k x0 x1) (B118 (GX118l0 k) (GX118l1 k) (FX128 k) (FX130 k) (FX131 k) (FX132 k) x0 x1) := by
 show LeO (All.exact_divide.f k x0 x1) _
 unfold All.exact_divide.f; unfold B118; (try simp only [GX118l0, GX118l1, GX118l2, FX128, FX129, FX130, FX131, FX132, FX133, All.integer_zero.f, All.exact_stepAt.f, All.S24.f0, All.S24.f1, All.rd_T24, All.z24]); exact BR
theorem ok118 (k : Nat) : FeOk Go.Proofs.Try.prog (fe118 (FX118 k)) :=
 fe_ok EOK HM (es := fun k => fes118 (FX128 k) (FX129 k) (FX130 k) (FX131 k) (FX132 k) (FX133 k)) (fun k => List.forall_mem_cons.2 ⟨ok128 k, List.forall_mem_cons.2 ⟨ok129 k, List.forall_mem_cons.2 ⟨ok130 k, List.forall_mem_cons.2 ⟨ok131 k, List.forall_mem_cons.2 ⟨ok132 k, List.forall_mem_cons.2 ⟨ok133 k, List.forall_mem_nil _⟩⟩⟩⟩⟩⟩) (N := 137) (an := an118) (c := cd118) (f := 118) (fn := Go.Proofs.Try.f118) (rms := rm118) (ask := ask118) (rsk := rsk118) (enc := enc118) (dec := dec118) (tbl := [p118.getD 0 ⟨0, [], .skip⟩, p118.getD 1 ⟨0, [], .skip⟩, p118.getD 2 ⟨0, [], .skip⟩]) (fun s => rfl) Go.Proofs.Try.func118 (by kernel_rfl) (by kernel_rfl) (by kernel_rfl) (fun k => les118 (GX118l0 k) (GX118l1 k) (GX118l2 k))
  (List.forall_mem_cons.2 ⟨fun s => rfl, List.forall_mem_cons.2 ⟨fun s => rfl, List.forall_mem_cons.2 ⟨fun s => rfl, List.forall_mem_nil _⟩⟩⟩) (fun k s0 => .cons (by kernel_rfl) (by kernel_rfl) (fun s r h => (e118l0 (GX118l0 k) (GX118l1 k) (GX118l2 k) (FX128 k) (FX129 k) (FX130 k) (FX131 k) (FX132 k) (FX133 k) s0 s).trans (b118l0 k s.1.1 s.1.2.1 s.1.2.2.1 s.1.2.2.2.1 s.2.1 r h)) (.cons (by kernel_rfl) (by kernel_rfl) (fun s r h => (e118l1 (GX118l0 k) (GX118l1 k) (GX118l2 k) (FX128 k) (FX129 k) (FX130 k) (FX131 k) (FX132 k) (FX133 k) s0 s).trans (b118l1 k s.1.1 s.1.2.1 s.1.2.2.1 s.1.2.2.2.1 s.2.1 s.2.2.1 r h)) (.cons (by kernel_rfl) (by kernel_rfl) (fun s r h => (e118l2 (GX118l0 k) (GX118l1 k) (GX118l2 k) (FX128 k) (FX129 k) (FX130 k) (FX131 k) (FX132 k) (FX133 k) s0 s).trans (b118l2 k s.1.1 s.1.2.1 s.1.2.2.1 s.1.2.2.2.1 s.2.1 s.2.2.1 r h)) (.nil))))
  (F := fun k s => FX118 k s.1.1 s.1.2.1) (fun k s r h => (e118 (GX118l0 k) (GX118l1 k) (GX118l2 k) (FX128 k) (FX129 k) (FX130 k) (FX131 k) (FX132 k) (FX133 k) s).trans (b118 k s.1.1 s.1.2.1 r h)) k
end Go.Proofs.YtdhdfcjpeflinaaV
set_option linter.unusedVariables false
set_option linter.unusedSimpArgs false
set_option maxRecDepth 100000
namespace Go.Proofs.YtdhdfcjpeflinaaV
open Go Go.RowKit Go.Proofs.Ytdhdfcjpeflinaa Go.Proofs.YtdhdfcjpeflinaaE Go.Proofs.YtdhdfcjpeflinaaW.PrintWords Go.Proofs.YtdhdfcjpeflinaaW.PrintLast Go.Proofs.YtdhdfcjpeflinaaW.PrintMore
@[reducible] noncomputable def GX119l0 (k : Nat) (x0 : ByteArray) (x12 : Int) (x13 : Int) (x3 : (List Int)) : Option R119 := All.exact_words.l0 k x0 x3 x12 x13
theorem b119l0 (k : Nat) (x0 : ByteArray) (x12 : Int) (x13 : Int) (x3 : (List Int)) : LeO (All.exact_words.l0 (k + 1) x0 x3 x12 x13) (B119l0 (GX119l0 k) (FX130 k) x0 x12 x13 x3) := by rw [All.exact_words.l0]; unfold B119l0; (try simp only [GX119l0, FX130, All.integer_zero.f, All.exact_stepAt.f, All.S24.f0, All.S24.f1, All.rd_T24, All.z24]); exact BR
theorem b119 (k : Nat) (x0 : ByteArray) : LeO (FX119 k x0) (B119 (GX119l0 k) x0) := by
 show LeO (All.exact_words.f k x0) _
 unfold All.exact_words.f; unfold B119; (try simp only [GX119l0, FX130, All.integer_zero.f, All.exact_stepAt.f, All.S24.f0, All.S24.f1, All.rd_T24, All.z24]); exact BR
theorem ok119 (k : Nat) : FeOk Go.Proofs.Try.prog (fe119 (FX119 k)) :=
 fe_ok EOK HM (es := fun k => fes119 (FX130 k)) (fun k => List.forall_mem_cons.2 ⟨ok130 k, List.forall_mem_nil _⟩) (N := 39) (an := an119) (c := cd119) (f := 119) (fn := Go.Proofs.Try.f119) (rms := rm119) (ask := ask119) (rsk := rsk119) (enc := enc119) (dec := dec119) (tbl := [p119.getD 0 ⟨0, [], .skip⟩]) (fun s => rfl) Go.Proofs.Try.func119 (by kernel_rfl) (by kernel_rfl) (by kernel_rfl) (fun k => les119 (GX119l0 k))
  (List.forall_mem_cons.2 ⟨fun s => rfl, List.forall_mem_nil _⟩) (fun k s0 => .cons (by kernel_rfl) (by kernel_rfl) (fun s r h => (e119l0 (GX119l0 k) (FX130 k) s0 s).trans (b119l0 k s.1.1 s.1.2.1 s.1.2.2.1 s.2.1 r h)) (.nil))
  (F := fun k s => FX119 k s.1.1) (fun k s r h => (e119 (GX119l0 k) (FX130 k) s).trans (b119 k s.1.1 r h)) k
@[reducible] noncomputable def GX130vl0 (k : Nat) (x0 : (List Int)) (x3 : Int) : Option R130v := All.exact_trim.l0 k x0 x3
theorem b130vl0 (k : Nat) (x0 : (List Int)) (x3 : Int) : LeO (All.exact_trim.l0 (k + 1) x0 x3) (B130vl0 (GX130vl0 k) x0 x3) := by rw [All.exact_trim.l0]; unfold B130vl0; (try simp only [GX130vl0, All.integer_zero.f, All.exact_stepAt.f, All.S24.f0, All.S24.f1, All.rd_T24, All.z24]); exact BR
theorem b130v (k : Nat) (x0 : (List Int)) : LeO (FX130v k x0) (B130v (GX130vl0 k) x0) := by
 show LeO (All.exact_trim.f k x0) _
 unfold All.exact_trim.f; unfold B130v; (try simp only [GX130vl0, All.integer_zero.f, All.exact_stepAt.f, All.S24.f0, All.S24.f1, All.rd_T24, All.z24]); exact BR
theorem ok130v (k : Nat) : FeOk Go.Proofs.Try.prog (fe130v (FX130v k)) :=
 fe_ok EOK HM (es := fun k => fes130v) (fun k => List.forall_mem_nil _) (N := 21) (an := an130v) (c := cd130v) (f := 130) (fn := Go.Proofs.Try.f130) (rms := rm130v) (ask := ask130v) (rsk := rsk130v) (enc := enc130v) (dec := dec130v) (tbl := [p130v.getD 0 ⟨0, [], .skip⟩]) (fun s => rfl) Go.Proofs.Try.func130 (by kernel_rfl) (by kernel_rfl) (by kernel_rfl) (fun k => les130v (GX130vl0 k))
  (List.forall_mem_cons.2 ⟨fun s => rfl, List.forall_mem_nil _⟩) (fun k s0 => .cons (by kernel_rfl) (by kernel_rfl) (fun s r h => (e130vl0 (GX130vl0 k) s0 s).trans (b130vl0 k s.1.1 s.1.2.1 r h)) (.nil))
  (F := fun k s => FX130v k s.1.1) (fun k s r h => (e130v (GX130vl0 k) s).trans (b130v k s.1.1 r h)) k
@[reducible] noncomputable def GX120l0 (k : Nat) (x17 : (List Int)) (x18 : Int) (x19 : Int) (x3 : (List Int)) : Option R120 := All.exact_pack.l0 k x3 x17 x18 x19
@[reducible] noncomputable def GX120l1 (k : Nat) (x4 : Int) (x5 : Int) (x17 : (List Int)) (x18 : Int) (x19 : Int) (x24 : Int) (x3 : (List Int)) : Option R120 := All.exact_pack.l1 k x3 x4 x5 x17 x18 x19 x24
@[reducible] noncomputable def GX120l2 (k : Nat) (x7 : Int) (x3 : (List Int)) : Option R120 := All.exact_pack.l2 k x3 x7
theorem b120l0 (k : Nat) (x17 : (List Int)) (x18 : Int) (x19 : Int) (x3 : (List Int)) : LeO (All.exact_pack.l0 (k + 1) x3 x17 x18 x19) (B120l0 (GX120l1 k) (GX120l2 k) x17 x18 x19 x3) := by rw [All.exact_pack.l0]; unfold B120l0; (try simp only [GX120l0, GX120l1, GX120l2, FX130v, All.integer_zero.f, All.exact_stepAt.f, All.S24.f0, All.S24.f1, All.rd_T24, All.z24]); exact BR
theorem b120l1 (k : Nat) (x4 : Int) (x5 : Int) (x17 : (List Int)) (x18 : Int) (x19 : Int) (x24 : Int) (x3 : (List Int)) : LeO (All.exact_pack.l1 (k + 1) x3 x4 x5 x17 x18 x19 x24) (B120l1 (GX120l0 k) (GX120l1 k) x4 x5 x17 x18 x19 x24 x3) := by rw [All.exact_pack.l1]; unfold B120l1; (try simp only [GX120l0, GX120l1, GX120l2, FX130v, All.integer_zero.f, All.exact_stepAt.f, All.S24.f0, All.S24.f1, All.rd_T24, All.z24]); exact BR
theorem b120l2 (k : Nat) (x7 : Int) (x3 : (List Int)) : LeO (All.exact_pack.l2 (k + 1) x3 x7) (B120l2 (GX120l2 k) x7 x3) := by rw [All.exact_pack.l2]; unfold B120l2; (try simp only [GX120l0, GX120l1, GX120l2, FX130v, All.integer_zero.f, All.exact_stepAt.f, All.S24.f0, All.S24.f1, All.rd_T24, All.z24]); exact BR
theorem b120 (k : Nat) (x0 : (List Int)) : LeO (FX120 k x0) (B120 (GX120l0 k) (FX130v k) x0) := by
 show LeO (All.exact_pack.f k x0) _
 unfold All.exact_pack.f; unfold B120; (try simp only [GX120l0, GX120l1, GX120l2, FX130v, All.integer_zero.f, All.exact_stepAt.f, All.S24.f0, All.S24.f1, All.rd_T24, All.z24]); exact BR
theorem ok120 (k : Nat) : FeOk Go.Proofs.Try.prog (fe120 (FX120 k)) :=
 fe_ok EOK HM (es := fun k => fes120 (FX130v k)) (fun k => List.forall_mem_cons.2 ⟨ok130v k, List.forall_mem_nil _⟩) (N := 55) (an := an120) (c := cd120) (f := 120) (fn := Go.Proofs.Try.f120) (rms := rm120) (ask := ask120) (rsk := rsk120) (enc := enc120) (dec := dec120) (tbl := [p120.getD 0 ⟨0, [], .skip⟩, p120.getD 1 ⟨0, [], .skip⟩, p120.getD 2 ⟨0, [], .skip⟩]) (fun s => rfl) Go.Proofs.Try.func120 (by kernel_rfl) (by kernel_rfl) (by kernel_rfl) (fun k => les120 (GX120l0 k) (GX120l1 k) (GX120l2 k))
  (List.forall_mem_cons.2 ⟨fun s => rfl, List.forall_mem_cons.2 ⟨fun s => rfl, List.forall_mem_cons.2 ⟨fun s => rfl, List.forall_mem_nil _⟩⟩⟩) (fun k s0 => .cons (by kernel_rfl) (by kernel_rfl) (fun s r h => (e120l0 (GX120l0 k) (GX120l1 k) (GX120l2 k) (FX130v k) s0 s).trans (b120l0 k s.1.1 s.1.2.1 s.1.2.2.1 s.2.1 r h)) (.cons (by kernel_rfl) (by kernel_rfl) (fun s r h => (e120l1 (GX120l0 k) (GX120l1 k) (GX120l2 k) (FX130v k) s0 s).trans (b120l1 k s.1.1 s.1.2.1 s.1.2.2.1 s.1.2.2.2.1 s.1.2.2.2.2.1 s.1.2.2.2.2.2.1 s.2.1 r h)) (.cons (by kernel_rfl) (by kernel_rfl) (fun s r h => (e120l2 (GX120l0 k) (GX120l1 k) (GX120l2 k) (FX130v k) s0 s).trans (b120l2 k s.1.1 s.2.1 r h)) (.nil))))
  (F := fun k s => FX120 k s.1.1) (fun k s r h => (e120 (GX120l0 k) (GX120l1 k) (GX120l2 k) (FX130v k) s).trans (b120 k s.1.1 r h)) k
theorem b94 (k : Nat) (x0 : ByteArray) (x1 : ByteArray) : LeO (FX94 k x0 x1) (B94 (FX118 k) (FX119 k) (FX120 k) x0 x1) := by
 show LeO (All.exact_NatDivMod.f k x0 x1) _
 unfold All.exact_NatDivMod.f; unfold B94; (try simp only [FX118, FX119, FX120, All.integer_zero.f, All.exact_stepAt.f, All.S24.f0, All.S24.f1, All.rd_T24, All.z24]); exact BR
theorem ok94 (k : Nat) : FeOk Go.Proofs.Try.prog (fe94 (FX94 k)) :=
 fe_ok EOK HM (es := fun k => fes94 (FX118 k) (FX119 k) (FX120 k)) (fun k => List.forall_mem_cons.2 ⟨ok118 k, List.forall_mem_cons.2 ⟨ok119 k, List.forall_mem_cons.2 ⟨ok120 k, List.forall_mem_nil _⟩⟩⟩) (N := 20) (an := an94) (c := cd94) (f := 94) (fn := Go.Proofs.Try.f94) (rms := rm94) (ask := ask94) (rsk := rsk94) (enc := enc94) (dec := dec94) (tbl := []) (fun s => rfl) Go.Proofs.Try.func94 (by kernel_rfl) (by kernel_rfl) (by kernel_rfl) (fun k => les94)
  (List.forall_mem_nil _) (fun k s0 => .nil)
  (F := fun k s => FX94 k s.1.1 s.1.2.1) (fun k s r h => (e94 (FX118 k) (FX119 k) (FX120 k) s).trans (b94 k s.1.1 s.1.2.1 r h)) k
@[reducible] noncomputable def GX95l0 (k : Nat) (x8 : Int) (x27 : Int) (x28 : Int) (x5 : (List Int)) (x6 : (List Int)) (x7 : (List Int)) : Option R95 := All.exact_NatAdd.l0 k x5 x6 x7 x8 x27 x28
theorem b95l0 (k : Nat) (x8 : Int) (x27 : Int) (x28 : Int) (x5 : (List Int)) (x6 : (List Int)) (x7 : (List Int)) : LeO (All.exact_NatAdd.l0 (k + 1) x5 x6 x7 x8 x27 x28) (B95l0 (GX95l0 k) (FX120 k) (FX121 k) x8 x27 x28 x5 x6 x7) := by
 rw [All.exact_NatAdd.l0]
 unfold B95l0
 (try simp only [GX95l0, FX119, FX120, FX121, All.integer_zero.f, All.exact_stepAt.f, All.S24.f0, All.S24.f1, All.rd_T24, All.z24])
 (try simp only [List.take_append_drop, List.drop_length, List.append_nil, Int.zero_sub, Int.toNat_natCast, Int.reduceToNat, Int.zero_add, List.take_zero, List.nil_append, List.append_assoc, List.length_set, ite_bind_, List.take_left, BAe, bne, decide_int_eq, decide_not, wrap_mod, if_true, if_false, Bool.false_eq_true, bind_assoc_, slice_def, List.drop_zero, List.take_length, wrap_u8, bind_some_, cnd_eq_if, rdOf, ite_not, Bool.and_eq_true, Bool.or_eq_true, Bool.not_eq_true', bfalse, Bool.not_eq_false', beq_iff_eq, decide_eq_true_eq, isEmpty_eq, ite_and_, ite_or_, ne_eq, toList_mk, List.toList_toArray])
 repeat' first
 | (with_reducible refine LeO.trans ((All.exact_NatAdd.mono_l k).1 _ _) ?_; rw [All.exact_NatAdd.j0]; (try simp only [if_true, if_false, decide_eq_true_eq, Bool.false_eq_true, decide_not, ite_not, bne, decide_int_eq, beq_iff_eq, Bool.not_eq_true', bfalse, toList_mk, List.toList_toArray, ite_and_, ite_or_, Bool.and_eq_true, Bool.or_eq_true, isEmpty_eq, wrap_mod, wrap_u8, All.integer_zero.f, bind_some_, Int.toNat_natCast, Int.reduceToNat, Int.zero_sub, BAe]))
 | (with_reducible exact LeO.none _)
 | (with_reducible exact LeO.refl _)
 | (with_reducible refine LeO.posR (by with_reducible assumption) ?_)
 | (with_reducible refine LeO.negR (by with_reducible assumption) ?_)
 | (with_reducible refine LeO.bindR (by with_reducible assumption) ?_)
 | (with_reducible refine LeO.posL (by with_reducible assumption) ?_)
 | (with_reducible refine LeO.negL (by with_reducible assumption) ?_)
 | (with_reducible refine LeO.iteL (fun _ => ?_) (fun _ => ?_))
 | (with_reducible refine LeO.bindK (by with_reducible assumption) ?_)
 | (with_reducible refine LeO.bindL (fun _ _ => ?_))
 | (refine LeO.posR (by first | decide | exact Int.le_refl _ | omega | assumption) ?_)
 | (refine LeO.negR (by first | decide | omega) ?_)
theorem b95 (k : Nat) (x0 : ByteArray) (x1 : ByteArray) : LeO (FX95 k x0 x1) (B95 (GX95l0 k) (FX119 k) x0 x1) := by
 show LeO (All.exact_NatAdd.f k x0 x1) _
 unfold All.exact_NatAdd.f
 unfold B95
 (try simp only [GX95l0, FX119, FX120, FX121, All.integer_zero.f, All.exact_stepAt.f, All.S24.f0, All.S24.f1, All.rd_T24, All.z24])
 (try simp only [List.take_append_drop, List.drop_length, List.append_nil, Int.zero_sub, Int.toNat_natCast, Int.reduceToNat, Int.zero_add, List.take_zero, List.nil_append, List.append_assoc, List.length_set, ite_bind_, List.take_left, BAe, bne, decide_int_eq, decide_not, wrap_mod, if_true, if_false, Bool.false_eq_true, bind_assoc_, slice_def, List.drop_zero, List.take_length, wrap_u8, bind_some_, cnd_eq_if, rdOf, ite_not, Bool.and_eq_true, Bool.or_eq_true, Bool.not_eq_true', bfalse, Bool.not_eq_false', beq_iff_eq, decide_eq_true_eq, isEmpty_eq, ite_and_, ite_or_, ne_eq, toList_mk, List.toList_toArray])
 repeat' first
 | (with_reducible refine LeO.trans ((All.exact_NatAdd.mono_l k).1 _ _) ?_; rw [All.exact_NatAdd.j0]; (try simp only [if_true, if_false, decide_eq_true_eq, Bool.false_eq_true, decide_not, ite_not, bne, decide_int_eq, beq_iff_eq, Bool.not_eq_true', bfalse, toList_mk, List.toList_toArray, ite_and_, ite_or_, Bool.and_eq_true, Bool.or_eq_true, isEmpty_eq, wrap_mod, wrap_u8, All.integer_zero.f, bind_some_, Int.toNat_natCast, Int.reduceToNat, Int.zero_sub, BAe]))
 | (with_reducible exact LeO.none _)
 | (with_reducible exact LeO.refl _)
 | (with_reducible refine LeO.posR (by with_reducible assumption) ?_)
 | (with_reducible refine LeO.negR (by with_reducible assumption) ?_)
 | (with_reducible refine LeO.bindR (by with_reducible assumption) ?_)
 | (with_reducible refine LeO.posL (by with_reducible assumption) ?_)
 | (with_reducible refine LeO.negL (by with_reducible assumption) ?_)
 | (with_reducible refine LeO.iteL (fun _ => ?_) (fun _ => ?_))
 | (with_reducible refine LeO.bindK (by with_reducible assumption) ?_)
 | (with_reducible refine LeO.bindL (fun _ _ => ?_))
 | (refine LeO.posR (by first | decide | exact Int.le_refl _ | omega | assumption) ?_)
 | (refine LeO.negR (by first | decide | omega) ?_)
theorem ok95 (k : Nat) : FeOk Go.Proofs.Try.prog (fe95 (FX95 k)) :=
 fe_ok EOK HM (es := fun k => fes95 (FX119 k) (FX120 k) (FX121 k)) (fun k => List.forall_mem_cons.2 ⟨ok119 k, List.forall_mem_cons.2 ⟨ok120 k, List.forall_mem_cons.2 ⟨ok121 k, List.forall_mem_nil _⟩⟩⟩) (N := 60) (an := an95) (c := cd95) (f := 95) (fn := Go.Proofs.Try.f95) (rms := rm95) (ask := ask95) (rsk := rsk95) (enc := enc95) (dec := dec95) (tbl := [p95.getD 0 ⟨0, [], .skip⟩]) (fun s => rfl) Go.Proofs.Try.func95 (by kernel_rfl) (by kernel_rfl) (by kernel_rfl) (fun k => les95 (GX95l0 k))
  (List.forall_mem_cons.2 ⟨fun s => rfl, List.forall_mem_nil _⟩) (fun k s0 => .cons (by kernel_rfl) (by kernel_rfl) (fun s r h => (e95l0 (GX95l0 k) (FX119 k) (FX120 k) (FX121 k) s0 s).trans (b95l0 k s.1.1 s.1.2.1 s.1.2.2.1 s.2.1 s.2.2.1 s.2.2.2.1 r h)) (.nil))
  (F := fun k s => FX95 k s.1.1 s.1.2.1) (fun k s r h => (e95 (GX95l0 k) (FX119 k) (FX120 k) (FX121 k) s).trans (b95 k s.1.1 s.1.2.1 r h)) k
theorem b96 (k : Nat) (x0 : Int) : LeO (FX96 k x0) (B96 (FX120 k) x0) := by
 show LeO (All.exact_NatOf.f k x0) _
 unfold All.exact_NatOf.f; unfold B96; (try simp only [FX120, All.integer_zero.f, All.exact_stepAt.f, All.S24.f0, All.S24.f1, All.rd_T24, All.z24]); exact BR
theorem ok96 (k : Nat) : FeOk Go.Proofs.Try.prog (fe96 (FX96 k)) :=
 fe_ok EOK HM (es := fun k => fes96 (FX120 k)) (fun k => List.forall_mem_cons.2 ⟨ok120 k, List.forall_mem_nil _⟩) (N := 6) (an := an96) (c := cd96) (f := 96) (fn := Go.Proofs.Try.f96) (rms := rm96) (ask := ask96) (rsk := rsk96) (enc := enc96) (dec := dec96) (tbl := []) (fun s => rfl) Go.Proofs.Try.func96 (by kernel_rfl) (by kernel_rfl) (by kernel_rfl) (fun k => les96)
  (List.forall_mem_nil _) (fun k s0 => .nil)
  (F := fun k s => FX96 k s.1.1) (fun k s r h => (e96 (FX120 k) s).trans (b96 k s.1.1 r h)) k
@[reducible] noncomputable def GX97l0 (k : Nat) (x7 : Int) (x15 : Int) (x16 : Int) (x5 : (List Int)) (x6 : (List Int)) : Option R97 := All.exact_NatSub.l0 k x5 x6 x7 x15 x16
theorem b97l0 (k : Nat) (x7 : Int) (x15 : Int) (x16 : Int) (x5 : (List Int)) (x6 : (List Int)) : LeO (All.exact_NatSub.l0 (k + 1) x5 x6 x7 x15 x16) (B97l0 (GX97l0 k) (FX120 k) (FX122 k) x7 x15 x16 x5 x6) := by rw [All.exact_NatSub.l0]; unfold B97l0; (try simp only [GX97l0, FX119, FX120, FX122, All.integer_zero.f, All.exact_stepAt.f, All.S24.f0, All.S24.f1, All.rd_T24, All.z24]); exact BR
theorem b97 (k : Nat) (x0 : ByteArray) (x1 : ByteArray) : LeO (FX97 k x0 x1) (B97 (GX97l0 k) (FX119 k) x0 x1) := by
 show LeO (All.exact_NatSub.f k x0 x1) _
 unfold All.exact_NatSub.f; unfold B97; (try simp only [GX97l0, FX119, FX120, FX122, All.integer_zero.f, All.exact_stepAt.f, All.S24.f0, All.S24.f1, All.rd_T24, All.z24]); exact BR
theorem ok97 (k : Nat) : FeOk Go.Proofs.Try.prog (fe97 (FX97 k)) :=
 fe_ok EOK HM (es := fun k => fes97 (FX119 k) (FX120 k) (FX122 k)) (fun k => List.forall_mem_cons.2 ⟨ok119 k, List.forall_mem_cons.2 ⟨ok120 k, List.forall_mem_cons.2 ⟨ok122 k, List.forall_mem_nil _⟩⟩⟩) (N := 43) (an := an97) (c := cd97) (f := 97) (fn := Go.Proofs.Try.f97) (rms := rm97) (ask := ask97) (rsk := rsk97) (enc := enc97) (dec := dec97) (tbl := [p97.getD 0 ⟨0, [], .skip⟩]) (fun s => rfl) Go.Proofs.Try.func97 (by kernel_rfl) (by kernel_rfl) (by kernel_rfl) (fun k => les97 (GX97l0 k))
  (List.forall_mem_cons.2 ⟨fun s => rfl, List.forall_mem_nil _⟩) (fun k s0 => .cons (by kernel_rfl) (by kernel_rfl) (fun s r h => (e97l0 (GX97l0 k) (FX119 k) (FX120 k) (FX122 k) s0 s).trans (b97l0 k s.1.1 s.1.2.1 s.1.2.2.1 s.2.1 s.2.2.1 r h)) (.nil))
  (F := fun k s => FX97 k s.1.1 s.1.2.1) (fun k s r h => (e97 (GX97l0 k) (FX119 k) (FX120 k) (FX122 k) s).trans (b97 k s.1.1 s.1.2.1 r h)) k
theorem b98 (k : Nat) (x0 : Bool) (x1 : ByteArray) : LeO (FX98 k x0 x1) (B98 x0 x1) := by
 show LeO (All.exact_IntMake.f x0 x1) _
 unfold All.exact_IntMake.f; unfold B98; (try simp only [All.integer_zero.f, All.exact_stepAt.f, All.S24.f0, All.S24.f1, All.rd_T24, All.z24]); exact BR
theorem ok98 (k : Nat) : FeOk Go.Proofs.Try.prog (fe98 (FX98 k)) :=
 fe_ok EOK HM (es := fun k => fes98) (fun k => List.forall_mem_nil _) (N := 12) (an := an98) (c := cd98) (f := 98) (fn := Go.Proofs.Try.f98) (rms := rm98) (ask := ask98) (rsk := rsk98) (enc := enc98) (dec := dec98) (tbl := []) (fun s => rfl) Go.Proofs.Try.func98 (by kernel_rfl) (by kernel_rfl) (by kernel_rfl) (fun k => les98)
  (List.forall_mem_nil _) (fun k s0 => .nil)
  (F := fun k s => FX98 k s.1.1 s.1.2.1) (fun k s r h => (e98 s).trans (b98 k s.1.1 s.1.2.1 r h)) k
theorem b54 (k : Nat) (x0 : (Bool × ByteArray)) (x1 : (Bool × ByteArray)) : LeO (FX54 k x0 x1) (B54 (FX94 k) (FX95 k) (FX96 k) (FX97 k) (FX98 k) x0 x1) := by
 show LeO (All.exact_IntDivMod.f k x0.1 x0.2 x1.1 x1.2) _
 unfold All.exact_IntDivMod.f
 unfold B54
 (try simp only [FX94, FX95, FX96, FX97, FX98, All.integer_zero.f, All.exact_stepAt.f, All.S24.f0, All.S24.f1, All.rd_T24, All.z24])
 (try simp only [List.take_append_drop, List.drop_length, List.append_nil, Int.zero_sub, Int.toNat_natCast, Int.reduceToNat, Int.zero_add, List.take_zero, List.nil_append, List.append_assoc, List.length_set, ite_bind_, List.take_left, BAe, bne, decide_int_eq, decide_not, wrap_mod, if_true, if_false, Bool.false_eq_true, bind_assoc_, slice_def, List.drop_zero, List.take_length, wrap_u8, bind_some_, cnd_eq_if, rdOf, ite_not, Bool.and_eq_true, Bool.or_eq_true, Bool.not_eq_true', bfalse, Bool.not_eq_false', beq_iff_eq, decide_eq_true_eq, isEmpty_eq, ite_and_, ite_or_, ne_eq, toList_mk, List.toList_toArray])
 repeat' first
 | (with_reducible refine LeO.trans ((All.exact_IntDivMod.mono_l k) _ _ _ _ _ _ _) ?_; rw [All.exact_IntDivMod.j0]; (try simp only [if_true, if_false, decide_eq_true_eq, Bool.false_eq_true, decide_not, ite_not, bne, decide_int_eq, beq_iff_eq, Bool.not_eq_true', bfalse, toList_mk, List.toList_toArray, ite_and_, ite_or_, Bool.and_eq_true, Bool.or_eq_true, isEmpty_eq, wrap_mod, wrap_u8, All.integer_zero.f, bind_some_, Int.toNat_natCast, Int.reduceToNat, Int.zero_sub, BAe]))
 | (with_reducible exact LeO.none _)
 | (with_reducible exact LeO.refl _)
 | (with_reducible refine LeO.posR (by with_reducible assumption) ?_)
 | (with_reducible refine LeO.negR (by with_reducible assumption) ?_)
 | (with_reducible refine LeO.bindR (by with_reducible assumption) ?_)
 | (with_reducible refine LeO.posL (by with_reducible assumption) ?_)
 | (with_reducible refine LeO.negL (by with_reducible assumption) ?_)
 | (with_reducible refine LeO.iteL (fun _ => ?_) (fun _ => ?_))
 | (with_reducible refine LeO.bindK (by with_reducible assumption) ?_)
 | (with_reducible refine LeO.bindL (fun _ _ => ?_))
 | (refine LeO.posR (by first | decide | exact Int.le_refl _ | omega | assumption) ?_)
 | (refine LeO.negR (by first | decide | omega) ?_)
theorem ok54 (k : Nat) : FeOk Go.Proofs.Try.prog (fe54 (FX54 k)) :=
 fe_ok EOK HM (es := fun k => fes54 (FX94 k) (FX95 k) (FX96 k) (FX97 k) (FX98 k)) (fun k => List.forall_mem_cons.2 ⟨ok94 k, List.forall_mem_cons.2 ⟨ok95 k, List.forall_mem_cons.2 ⟨ok96 k, List.forall_mem_cons.2 ⟨ok97 k, List.forall_mem_cons.2 ⟨ok98 k, List.forall_mem_nil _⟩⟩⟩⟩⟩) (N := 38) (an := an54) (c := cd54) (f := 54) (fn := Go.Proofs.Try.f54) (rms := rm54) (ask := ask54) (rsk := rsk54) (enc := enc54) (dec := dec54) (tbl := []) (fun s => rfl) Go.Proofs.Try.func54 (by kernel_rfl) (by kernel_rfl) (by kernel_rfl) (fun k => les54)
  (List.forall_mem_nil _) (fun k s0 => .nil)
  (F := fun k s => FX54 k s.1.1 s.1.2.1) (fun k s r h => (e54 (FX94 k) (FX95 k) (FX96 k) (FX97 k) (FX98 k) s).trans (b54 k s.1.1 s.1.2.1 r h)) k
theorem b14 (k : Nat) (x0 : (Bool × ByteArray)) (x1 : (Bool × ByteArray)) : LeO (FX14 k x0 x1) (B14 (FX52 k) (FX53 k) (FX54 k) x0 x1) := by
 show LeO (All.integer_DivMod.f k x0.1 x0.2 x1.1 x1.2) _
 unfold All.integer_DivMod.f; unfold B14; (try simp only [FX52, FX53, FX54, All.integer_zero.f, All.exact_stepAt.f, All.S24.f0, All.S24.f1, All.rd_T24, All.z24]); exact BR
theorem ok14 (k : Nat) : FeOk Go.Proofs.Try.prog (fe14 (FX14 k)) :=
 fe_ok EOK HM (es := fun k => fes14 (FX52 k) (FX53 k) (FX54 k)) (fun k => List.forall_mem_cons.2 ⟨ok52 k, List.forall_mem_cons.2 ⟨ok53 k, List.forall_mem_cons.2 ⟨ok54 k, List.forall_mem_nil _⟩⟩⟩) (N := 38) (an := an14) (c := cd14) (f := 14) (fn := Go.Proofs.Try.f14) (rms := rm14) (ask := ask14) (rsk := rsk14) (enc := enc14) (dec := dec14) (tbl := []) (fun s => rfl) Go.Proofs.Try.func14 (by kernel_rfl) (by kernel_rfl) (by kernel_rfl) (fun k => les14)
  (List.forall_mem_nil _) (fun k s0 => .nil)
  (F := fun k s => FX14 k s.1.1 s.1.2.1) (fun k s r h => (e14 (FX52 k) (FX53 k) (FX54 k) s).trans (b14 k s.1.1 s.1.2.1 r h)) k
theorem b55 (k : Nat) (x0 : (List (Bool × ByteArray))) : LeO (FX55 k x0) (B55 x0) := by exact LeO.refl _
theorem ok55 (k : Nat) : FeOk Go.Proofs.Try.prog (fe55 (FX55 k)) :=
 fe_ok EOK HM (es := fun k => fes55) (fun k => List.forall_mem_nil _) (N := 4) (an := an55) (c := cd55) (f := 55) (fn := Go.Proofs.Try.f55) (rms := rm55) (ask := ask55) (rsk := rsk55) (enc := enc55) (dec := dec55) (tbl := []) (fun s => rfl) Go.Proofs.Try.func55 (by kernel_rfl) (by kernel_rfl) (by kernel_rfl) (fun k => les55)
  (List.forall_mem_nil _) (fun k s0 => .nil)
  (F := fun k s => FX55 k s.1.1) (fun k s r h => (e55 s).trans (b55 k s.1.1 r h)) k
@[reducible] noncomputable def GX100l0 (k : Nat) (x5 : (List Int)) (x6 : (List Int)) : Option R100 := All.exact_NatGcd.l0 k x5 x6
theorem b100l0 (k : Nat) (x5 : (List Int)) (x6 : (List Int)) : LeO (All.exact_NatGcd.l0 (k + 1) x5 x6) (B100l0 (GX100l0 k) (FX118 k) (FX120 k) x5 x6) := by rw [All.exact_NatGcd.l0]; unfold B100l0; (try simp only [GX100l0, FX118, FX119, FX120, All.integer_zero.f, All.exact_stepAt.f, All.S24.f0, All.S24.f1, All.rd_T24, All.z24]); exact BR
theorem b100 (k : Nat) (x0 : ByteArray) (x1 : ByteArray) : LeO (FX100 k x0 x1) (B100 (GX100l0 k) (FX119 k) x0 x1) := by
 show LeO (All.exact_NatGcd.f k x0 x1) _
 unfold All.exact_NatGcd.f; unfold B100; (try simp only [GX100l0, FX118, FX119, FX120, All.integer_zero.f, All.exact_stepAt.f, All.S24.f0, All.S24.f1, All.rd_T24, All.z24]); exact BR
theorem ok100 (k : Nat) : FeOk Go.Proofs.Try.prog (fe100 (FX100 k)) :=
 fe_ok EOK HM (es := fun k => fes100 (FX118 k) (FX119 k) (FX120 k)) (fun k => List.forall_mem_cons.2 ⟨ok118 k, List.forall_mem_cons.2 ⟨ok119 k, List.forall_mem_cons.2 ⟨ok120 k, List.forall_mem_nil _⟩⟩⟩) (N := 26) (an := an100) (c := cd100) (f := 100) (fn := Go.Proofs.Try.f100) (rms := rm100) (ask := ask100) (rsk := rsk100) (enc := enc100) (dec := dec100) (tbl := [p100.getD 0 ⟨0, [], .skip⟩]) (fun s => rfl) Go.Proofs.Try.func100 (by kernel_rfl) (by kernel_rfl) (by kernel_rfl) (fun k => les100 (GX100l0 k))
  (List.forall_mem_cons.2 ⟨fun s => rfl, List.forall_mem_nil _⟩) (fun k s0 => .cons (by kernel_rfl) (by kernel_rfl) (fun s r h => (e100l0 (GX100l0 k) (FX118 k) (FX119 k) (FX120 k) s0 s).trans (b100l0 k s.1.1 s.1.2.1 r h)) (.nil))
  (F := fun k s => FX100 k s.1.1 s.1.2.1) (fun k s r h => (e100 (GX100l0 k) (FX118 k) (FX119 k) (FX120 k) s).trans (b100 k s.1.1 s.1.2.1 r h)) k
theorem b57 (k : Nat) (x0 : (Bool × ByteArray)) (x1 : (Bool × ByteArray)) : LeO (FX57 k x0 x1) (B57 (FX100 k) x0 x1) := by
 show LeO (All.exact_IntGcd.f k x0.1 x0.2 x1.1 x1.2) _
 unfold All.exact_IntGcd.f; unfold B57; (try simp only [FX100, All.integer_zero.f, All.exact_stepAt.f, All.S24.f0, All.S24.f1, All.rd_T24, All.z24]); exact BR
theorem ok57 (k : Nat) : FeOk Go.Proofs.Try.prog (fe57 (FX57 k)) :=
 fe_ok EOK HM (es := fun k => fes57 (FX100 k)) (fun k => List.forall_mem_cons.2 ⟨ok100 k, List.forall_mem_nil _⟩) (N := 11) (an := an57) (c := cd57) (f := 57) (fn := Go.Proofs.Try.f57) (rms := rm57) (ask := ask57) (rsk := rsk57) (enc := enc57) (dec := dec57) (tbl := []) (fun s => rfl) Go.Proofs.Try.func57 (by kernel_rfl) (by kernel_rfl) (by kernel_rfl) (fun k => les57)
  (List.forall_mem_nil _) (fun k s0 => .nil)
  (F := fun k s => FX57 k s.1.1 s.1.2.1) (fun k s r h => (e57 (FX100 k) s).trans (b57 k s.1.1 s.1.2.1 r h)) k
theorem b56 (k : Nat) (x0 : (Bool × ByteArray)) (x1 : (Bool × ByteArray)) : LeO (FX56 k x0 x1) (B56 (FX57 k) x0 x1) := by exact LeO.refl _
theorem ok56 (k : Nat) : FeOk Go.Proofs.Try.prog (fe56 (FX56 k)) :=
 fe_ok EOK HM (es := fun k => fes56 (FX57 k)) (fun k => List.forall_mem_cons.2 ⟨ok57 k, List.forall_mem_nil _⟩) (N := 6) (an := an56) (c := cd56) (f := 56) (fn := Go.Proofs.Try.f56) (rms := rm56) (ask := ask56) (rsk := rsk56) (enc := enc56) (dec := dec56) (tbl := []) (fun s => rfl) Go.Proofs.Try.func56 (by kernel_rfl) (by kernel_rfl) (by kernel_rfl) (fun k => les56)
  (List.forall_mem_nil _) (fun k s0 => .nil)
  (F := fun k s => FX56 k s.1.1 s.1.2.1) (fun k s r h => (e56 (FX57 k) s).trans (b56 k s.1.1 s.1.2.1 r h)) k
theorem b99Gcd (k : Nat) (x0 : ((Bool × ByteArray) × (Bool × ByteArray) × Unit)) (x1 : (List (Bool × ByteArray))) : LeO (FX99Gcd k x0 x1) (B99Gcd (FX52 k) (FX53 k) (FX56 k) x0 x1) := by exact LeO.refl _
theorem ok99Gcd (k : Nat) : FeOk Go.Proofs.Try.prog (fe99Gcd (FX99Gcd k)) :=
 fe_ok EOK HM (es := fun k => fes99Gcd (FX52 k) (FX53 k) (FX56 k)) (fun k => List.forall_mem_cons.2 ⟨ok52 k, List.forall_mem_cons.2 ⟨ok53 k, List.forall_mem_cons.2 ⟨ok56 k, List.forall_mem_nil _⟩⟩⟩) (N := 21) (an := an99Gcd) (c := cd99Gcd) (f := 99) (fn := Go.Proofs.Try.f99) (rms := rm99Gcd) (ask := ask99Gcd) (rsk := rsk99Gcd) (enc := enc99Gcd) (dec := dec99Gcd) (tbl := []) (fun s => rfl) Go.Proofs.Try.func99 (by kernel_rfl) (by kernel_rfl) (by kernel_rfl) (fun k => les99Gcd)
  (List.forall_mem_nil _) (fun k s0 => .nil)
  (F := fun k s => FX99Gcd k s.1.1 s.1.2.1) (fun k s r h => (e99Gcd (FX52 k) (FX53 k) (FX56 k) s).trans (b99Gcd k s.1.1 s.1.2.1 r h)) k
theorem b15 (k : Nat) (x0 : (Bool × ByteArray)) (x1 : (Bool × ByteArray)) : LeO (FX15 k x0 x1) (B15 (FX55 k) (FX99Gcd k) x0 x1) := by
 show LeO (All.integer_Gcd.f k x0.1 x0.2 x1.1 x1.2) _
 unfold All.integer_Gcd.f; unfold B15; (try simp only [FX55, FX99Gcd, B55, B99Gcd, B56, FX52, FX53, FX56, FX57, All.integer_zero.f, All.exact_stepAt.f, All.S24.f0, All.S24.f1, All.rd_T24, All.z24]); exact BR
theorem ok15 (k : Nat) : FeOk Go.Proofs.Try.prog (fe15 (FX15 k)) :=
 fe_ok EOK HM (es := fun k => fes15 (FX55 k) (FX99Gcd k)) (fun k => List.forall_mem_cons.2 ⟨ok55 k, List.forall_mem_cons.2 ⟨ok99Gcd k, List.forall_mem_nil _⟩⟩) (N := 14) (an := an15) (c := cd15) (f := 15) (fn := Go.Proofs.Try.f15) (rms := rm15) (ask := ask15) (rsk := rsk15) (enc := enc15) (dec := dec15) (tbl := []) (fun s => rfl) Go.Proofs.Try.func15 (by kernel_rfl) (by kernel_rfl) (by kernel_rfl) (fun k => les15)
  (List.forall_mem_nil _) (fun k s0 => .nil)
  (F := fun k s => FX15 k s.1.1 s.1.2.1) (fun k s r h => (e15 (FX55 k) (FX99Gcd k) s).trans (b15 k s.1.1 s.1.2.1 r h)) k
theorem b78 (k : Nat) (x0 : Int) : LeO (FX78 k x0) (B78 (FX96 k) x0) := by
 show LeO (All.exact_IntOf.f k x0) _
 unfold All.exact_IntOf.f; unfold B78; (try simp only [FX96, All.integer_zero.f, All.exact_stepAt.f, All.S24.f0, All.S24.f1, All.rd_T24, All.z24]); exact BR
theorem ok78 (k : Nat) : FeOk Go.Proofs.Try.prog (fe78 (FX78 k)) :=
 fe_ok EOK HM (es := fun k => fes78 (FX96 k)) (fun k => List.forall_mem_cons.2 ⟨ok96 k, List.forall_mem_nil _⟩) (N := 14) (an := an78) (c := cd78) (f := 78) (fn := Go.Proofs.Try.f78) (rms := rm78) (ask := ask78) (rsk := rsk78) (enc := enc78) (dec := dec78) (tbl := []) (fun s => rfl) Go.Proofs.Try.func78 (by kernel_rfl) (by kernel_rfl) (by kernel_rfl) (fun k => les78)
  (List.forall_mem_nil _) (fun k s0 => .nil)
  (F := fun k s => FX78 k s.1.1) (fun k s r h => (e78 (FX96 k) s).trans (b78 k s.1.1 r h)) k
theorem b30 (k : Nat) (x0 : Int) : LeO (FX30 k x0) (B30 (FX78 k) x0) := by
 show LeO (All.integer_Of.f k x0) _
 unfold All.integer_Of.f; unfold B30; (try simp only [FX78, All.integer_zero.f, All.exact_stepAt.f, All.S24.f0, All.S24.f1, All.rd_T24, All.z24]); exact BR
theorem ok30 (k : Nat) : FeOk Go.Proofs.Try.prog (fe30 (FX30 k)) :=
 fe_ok EOK HM (es := fun k => fes30 (FX78 k)) (fun k => List.forall_mem_cons.2 ⟨ok78 k, List.forall_mem_nil _⟩) (N := 5) (an := an30) (c := cd30) (f := 30) (fn := Go.Proofs.Try.f30) (rms := rm30) (ask := ask30) (rsk := rsk30) (enc := enc30) (dec := dec30) (tbl := []) (fun s => rfl) Go.Proofs.Try.func30 (by kernel_rfl) (by kernel_rfl) (by kernel_rfl) (fun k => les30)
  (List.forall_mem_nil _) (fun k s0 => .nil)
  (F := fun k s => FX30 k s.1.1) (fun k s r h => (e30 (FX78 k) s).trans (b30 k s.1.1 r h)) k
@[reducible] noncomputable def GX16l0 (k : Nat) (x1 : Int) (x8 : Int) (x2 : (Bool × ByteArray)) (x5 : (Bool × ByteArray)) : Option R16 := All.integer_Valuation.l0 k x1 x8 x2.1 x2.2
theorem b16l0 (k : Nat) (x1 : Int) (x8 : Int) (x2 : (Bool × ByteArray)) (x5 : (Bool × ByteArray)) : LeO (All.integer_Valuation.l0 (k + 1) x1 x8 x2.1 x2.2) (B16l0 (GX16l0 k) (FX30 k) (FX53 k) (FX54 k) x1 x8 x2 x5) := by rw [All.integer_Valuation.l0]; unfold B16l0; (try simp only [GX16l0, FX30, FX33, FX53, FX54, All.integer_zero.f, All.exact_stepAt.f, All.S24.f0, All.S24.f1, All.rd_T24, All.z24]); exact BR
theorem b16 (k : Nat) (x0 : (Bool × ByteArray)) (x1 : Int) : LeO (FX16 k x0 x1) (B16 (GX16l0 k) (FX33 k) (FX53 k) x0 x1) := by
 show LeO (All.integer_Valuation.f k x0.1 x0.2 x1) _
 unfold All.integer_Valuation.f; unfold B16; (try simp only [GX16l0, FX30, FX33, FX53, FX54, All.integer_zero.f, All.exact_stepAt.f, All.S24.f0, All.S24.f1, All.rd_T24, All.z24]); exact BR
theorem ok16 (k : Nat) : FeOk Go.Proofs.Try.prog (fe16 (FX16 k)) :=
 fe_ok EOK HM (es := fun k => fes16 (FX30 k) (FX33 k) (FX53 k) (FX54 k)) (fun k => List.forall_mem_cons.2 ⟨ok30 k, List.forall_mem_cons.2 ⟨ok33 k, List.forall_mem_cons.2 ⟨ok53 k, List.forall_mem_cons.2 ⟨ok54 k, List.forall_mem_nil _⟩⟩⟩⟩) (N := 39) (an := an16) (c := cd16) (f := 16) (fn := Go.Proofs.Try.f16) (rms := rm16) (ask := ask16) (rsk := rsk16) (enc := enc16) (dec := dec16) (tbl := [p16.getD 0 ⟨0, [], .skip⟩]) (fun s => rfl) Go.Proofs.Try.func16 (by kernel_rfl) (by kernel_rfl) (by kernel_rfl) (fun k => les16 (GX16l0 k))
  (List.forall_mem_cons.2 ⟨fun s => rfl, List.forall_mem_nil _⟩) (fun k s0 => .cons (by kernel_rfl) (by kernel_rfl) (fun s r h => (e16l0 (GX16l0 k) (FX30 k) (FX33 k) (FX53 k) (FX54 k) s0 s).trans (b16l0 k s.1.1 s.1.2.1 s.2.1 s.2.2.1 r h)) (.nil))
  (F := fun k s => FX16 k s.1.1 s.1.2.1) (fun k s r h => (e16 (GX16l0 k) (FX30 k) (FX33 k) (FX53 k) (FX54 k) s).trans (b16 k s.1.1 s.1.2.1 r h)) k
@[reducible] noncomputable def GX105l0 (k : Nat) (x0 : (List Int)) (x4 : Int) (x3 : (List Int)) : Option R105 := All.galoisref01_pack.l0 k x0 x3 x4
@[reducible] noncomputable def GX105l1 (k : Nat) (x0 : (List Int)) (x4 : Int) (x5 : Int) (x3 : (List Int)) : Option R105 := All.galoisref01_pack.l1 k x0 x3 x4 x5
theorem b105l0 (k : Nat) (x0 : (List Int)) (x4 : Int) (x3 : (List Int)) : LeO (All.galoisref01_pack.l0 (k + 1) x0 x3 x4) (B105l0 (GX105l1 k) x0 x4 x3) := by rw [All.galoisref01_pack.l0]; unfold B105l0; (try simp only [GX105l0, GX105l1, All.integer_zero.f, All.exact_stepAt.f, All.S24.f0, All.S24.f1, All.rd_T24, All.z24]); exact BR
theorem b105l1 (k : Nat) (x0 : (List Int)) (x4 : Int) (x5 : Int) (x3 : (List Int)) : LeO (All.galoisref01_pack.l1 (k + 1) x0 x3 x4 x5) (B105l1 (GX105l0 k) (GX105l1 k) x0 x4 x5 x3) := by rw [All.galoisref01_pack.l1]; unfold B105l1; (try simp only [GX105l0, GX105l1, All.integer_zero.f, All.exact_stepAt.f, All.S24.f0, All.S24.f1, All.rd_T24, All.z24]); exact BR
theorem b105 (k : Nat) (x0 : (List Int)) : LeO (FX105 k x0) (B105 (GX105l0 k) x0) := by
 show LeO (All.galoisref01_pack.f k x0) _
 unfold All.galoisref01_pack.f; unfold B105; (try simp only [GX105l0, GX105l1, All.integer_zero.f, All.exact_stepAt.f, All.S24.f0, All.S24.f1, All.rd_T24, All.z24]); exact BR
theorem ok105 (k : Nat) : FeOk Go.Proofs.Try.prog (fe105 (FX105 k)) :=
 fe_ok EOK HM (es := fun k => fes105) (fun k => List.forall_mem_nil _) (N := 38) (an := an105) (c := cd105) (f := 105) (fn := Go.Proofs.Try.f105) (rms := rm105) (ask := ask105) (rsk := rsk105) (enc := enc105) (dec := dec105) (tbl := [p105.getD 0 ⟨0, [], .skip⟩, p105.getD 1 ⟨0, [], .skip⟩]) (fun s => rfl) Go.Proofs.Try.func105 (by kernel_rfl) (by kernel_rfl) (by kernel_rfl) (fun k => les105 (GX105l0 k) (GX105l1 k))
  (List.forall_mem_cons.2 ⟨fun s => rfl, List.forall_mem_cons.2 ⟨fun s => rfl, List.forall_mem_nil _⟩⟩) (fun k s0 => .cons (by kernel_rfl) (by kernel_rfl) (fun s r h => (e105l0 (GX105l0 k) (GX105l1 k) s0 s).trans (b105l0 k s.1.1 s.1.2.1 s.2.1 r h)) (.cons (by kernel_rfl) (by kernel_rfl) (fun s r h => (e105l1 (GX105l0 k) (GX105l1 k) s0 s).trans (b105l1 k s.1.1 s.1.2.1 s.1.2.2.1 s.2.1 r h)) (.nil)))
  (F := fun k s => FX105 k s.1.1) (fun k s r h => (e105 (GX105l0 k) (GX105l1 k) s).trans (b105 k s.1.1 r h)) k
theorem b63 (k : Nat) (x0 : Int) : LeO (FX63 k x0) (B63 (FX105 k) x0) := by
 show LeO (All.galoisref01_Of.f k x0) _
 unfold All.galoisref01_Of.f; unfold B63; (try simp only [FX105, All.integer_zero.f, All.exact_stepAt.f, All.S24.f0, All.S24.f1, All.rd_T24, All.z24]); exact BR
theorem ok63 (k : Nat) : FeOk Go.Proofs.Try.prog (fe63 (FX63 k)) :=
 fe_ok EOK HM (es := fun k => fes63 (FX105 k)) (fun k => List.forall_mem_cons.2 ⟨ok105 k, List.forall_mem_nil _⟩) (N := 9) (an := an63) (c := cd63) (f := 63) (fn := Go.Proofs.Try.f63) (rms := rm63) (ask := ask63) (rsk := rsk63) (enc := enc63) (dec := dec63) (tbl := []) (fun s => rfl) Go.Proofs.Try.func63 (by kernel_rfl) (by kernel_rfl) (by kernel_rfl) (fun k => les63)
  (List.forall_mem_nil _) (fun k s0 => .nil)
  (F := fun k s => FX63 k s.1.1) (fun k s r h => (e63 (FX105 k) s).trans (b63 k s.1.1 r h)) k
theorem b75 (k : Nat) (x0 : Int) : LeO (FX75 k x0) (B75 (FX63 k) x0) := by
 show LeO (All.galoisref02_FromInt.f k x0) _
 unfold All.galoisref02_FromInt.f; unfold B75; (try simp only [FX63, All.integer_zero.f, All.exact_stepAt.f, All.S24.f0, All.S24.f1, All.rd_T24, All.z24]); exact BR
theorem ok75 (k : Nat) : FeOk Go.Proofs.Try.prog (fe75 (FX75 k)) :=
 fe_ok EOK HM (es := fun k => fes75 (FX63 k)) (fun k => List.forall_mem_cons.2 ⟨ok63 k, List.forall_mem_nil _⟩) (N := 16) (an := an75) (c := cd75) (f := 75) (fn := Go.Proofs.Try.f75) (rms := rm75) (ask := ask75) (rsk := rsk75) (enc := enc75) (dec := dec75) (tbl := []) (fun s => rfl) Go.Proofs.Try.func75 (by kernel_rfl) (by kernel_rfl) (by kernel_rfl) (fun k => les75)
  (List.forall_mem_nil _) (fun k s0 => .nil)
  (F := fun k s => FX75 k s.1.1) (fun k s r h => (e75 (FX63 k) s).trans (b75 k s.1.1 r h)) k
theorem b27 (k : Nat) (x0 : Int) : LeO (FX27 k x0) (B27 (FX75 k) x0) := by
 show LeO (All.galoislaw02_of.f k x0) _
 unfold All.galoislaw02_of.f; unfold B27; (try simp only [FX75, All.integer_zero.f, All.exact_stepAt.f, All.S24.f0, All.S24.f1, All.rd_T24, All.z24]); exact BR
theorem ok27 (k : Nat) : FeOk Go.Proofs.Try.prog (fe27 (FX27 k)) :=
 fe_ok EOK HM (es := fun k => fes27 (FX75 k)) (fun k => List.forall_mem_cons.2 ⟨ok75 k, List.forall_mem_nil _⟩) (N := 5) (an := an27) (c := cd27) (f := 27) (fn := Go.Proofs.Try.f27) (rms := rm27) (ask := ask27) (rsk := rsk27) (enc := enc27) (dec := dec27) (tbl := []) (fun s => rfl) Go.Proofs.Try.func27 (by kernel_rfl) (by kernel_rfl) (by kernel_rfl) (fun k => les27)
  (List.forall_mem_nil _) (fun k s0 => .nil)
  (F := fun k s => FX27 k s.1.1) (fun k s r h => (e27 (FX75 k) s).trans (b27 k s.1.1 r h)) k
@[reducible] noncomputable def GX123l0 (k : Nat) (x1 : (List Int)) (x20 : (List Int)) (x21 : Int) (x22 : Int) (x5 : (List Int)) : Option R123 := All.exact_mulWords.l0 k x1 x5 x20 x21 x22
@[reducible] noncomputable def GX123l1 (k : Nat) (x1 : (List Int)) (x6 : Int) (x7 : Int) (x8 : Int) (x20 : (List Int)) (x21 : Int) (x22 : Int) (x27 : (List Int)) (x28 : Int) (x29 : Int) (x5 : (List Int)) : Option R123 := All.exact_mulWords.l1 k x1 x5 x6 x7 x8 x20 x21 x22 x27 x28 x29
theorem b123l0 (k : Nat) (x1 : (List Int)) (x20 : (List Int)) (x21 : Int) (x22 : Int) (x5 : (List Int)) : LeO (All.exact_mulWords.l0 (k + 1) x1 x5 x20 x21 x22) (B123l0 (GX123l1 k) (FX130 k) x1 x20 x21 x22 x5) := by rw [All.exact_mulWords.l0]; unfold B123l0; (try simp only [GX123l0, GX123l1, FX121, FX130, FX134, All.integer_zero.f, All.exact_stepAt.f, All.S24.f0, All.S24.f1, All.rd_T24, All.z24]); exact BR
theorem b123l1 (k : Nat) (x1 : (List Int)) (x6 : Int) (x7 : Int) (x8 : Int) (x20 : (List Int)) (x21 : Int) (x22 : Int) (x27 : (List Int)) (x28 : Int) (x29 : Int) (x5 : (List Int)) : LeO (All.exact_mulWords.l1 (k + 1) x1 x5 x6 x7 x8 x20 x21 x22 x27 x28 x29) (B123l1 (GX123l0 k) (GX123l1 k) (FX121 k) (FX134 k) x1 x6 x7 x8 x20 x21 x22 x27 x28 x29 x5) := by rw [All.exact_mulWords.l1]; unfold B123l1; (try simp only [GX123l0, GX123l1, FX121, FX130, FX134, All.integer_zero.f, All.exact_stepAt.f, All.S24.f0, All.S24.f1, All.rd_T24, All.z24]); exact BR
theorem b123 (k : Nat) (x0 : (List Int)) (x1 : (List Int)) : LeO (FX123 k x0 x1) (B123 (GX123l0 k) x0 x1) := by
 show LeO (All.exact_mulWords.f k x0 x1) _
 unfold All.exact_mulWords.f; unfold B123; (try simp only [GX123l0, GX123l1, FX121, FX130, FX134, All.integer_zero.f, All.exact_stepAt.f, All.S24.f0, All.S24.f1, All.rd_T24, All.z24]); exact BR
theorem ok123 (k : Nat) : FeOk Go.Proofs.Try.prog (fe123 (FX123 k)) :=
 fe_ok EOK HM (es := fun k => fes123 (FX121 k) (FX130 k) (FX134 k)) (fun k => List.forall_mem_cons.2 ⟨ok121 k, List.forall_mem_cons.2 ⟨ok130 k, List.forall_mem_cons.2 ⟨ok134 k, List.forall_mem_nil _⟩⟩⟩) (N := 80) (an := an123) (c := cd123) (f := 123) (fn := Go.Proofs.Try.f123) (rms := rm123) (ask := ask123) (rsk := rsk123) (enc := enc123) (dec := dec123) (tbl := [p123.getD 0 ⟨0, [], .skip⟩, p123.getD 1 ⟨0, [], .skip⟩]) (fun s => rfl) Go.Proofs.Try.func123 (by kernel_rfl) (by kernel_rfl) (by kernel_rfl) (fun k => les123 (GX123l0 k) (GX123l1 k))
  (List.forall_mem_cons.2 ⟨fun s => rfl, List.forall_mem_cons.2 ⟨fun s => rfl, List.forall_mem_nil _⟩⟩) (fun k s0 => .cons (by kernel_rfl) (by kernel_rfl) (fun s r h => (e123l0 (GX123l0 k) (GX123l1 k) (FX121 k) (FX130 k) (FX134 k) s0 s).trans (b123l0 k s.1.1 s.1.2.1 s.1.2.2.1 s.1.2.2.2.1 s.2.1 r h)) (.cons (by kernel_rfl) (by kernel_rfl) (fun s r h => (e123l1 (GX123l0 k) (GX123l1 k) (FX121 k) (FX130 k) (FX134 k) s0 s).trans (b123l1 k s.1.1 s.1.2.1 s.1.2.2.1 s.1.2.2.2.1 s.1.2.2.2.2.1 s.1.2.2.2.2.2.1 s.1.2.2.2.2.2.2.1 s.1.2.2.2.2.2.2.2.1 s.1.2.2.2.2.2.2.2.2.1 s.1.2.2.2.2.2.2.2.2.2.1 s.2.1 r h)) (.nil)))
  (F := fun k s => FX123 k s.1.1 s.1.2.1) (fun k s r h => (e123 (GX123l0 k) (GX123l1 k) (FX121 k) (FX130 k) (FX134 k) s).trans (b123 k s.1.1 s.1.2.1 r h)) k
theorem b108 (k : Nat) (x0 : ByteArray) (x1 : ByteArray) : LeO (FX108 k x0 x1) (B108 (FX119 k) (FX120 k) (FX123 k) x0 x1) := by
 show LeO (All.exact_NatMul.f k x0 x1) _
 unfold All.exact_NatMul.f; unfold B108; (try simp only [FX119, FX120, FX123, All.integer_zero.f, All.exact_stepAt.f, All.S24.f0, All.S24.f1, All.rd_T24, All.z24]); exact BR
theorem ok108 (k : Nat) : FeOk Go.Proofs.Try.prog (fe108 (FX108 k)) :=
 fe_ok EOK HM (es := fun k => fes108 (FX119 k) (FX120 k) (FX123 k)) (fun k => List.forall_mem_cons.2 ⟨ok119 k, List.forall_mem_cons.2 ⟨ok120 k, List.forall_mem_cons.2 ⟨ok123 k, List.forall_mem_nil _⟩⟩⟩) (N := 11) (an := an108) (c := cd108) (f := 108) (fn := Go.Proofs.Try.f108) (rms := rm108) (ask := ask108) (rsk := rsk108) (enc := enc108) (dec := dec108) (tbl := []) (fun s => rfl) Go.Proofs.Try.func108 (by kernel_rfl) (by kernel_rfl) (by kernel_rfl) (fun k => les108)
  (List.forall_mem_nil _) (fun k s0 => .nil)
  (F := fun k s => FX108 k s.1.1 s.1.2.1) (fun k s r h => (e108 (FX119 k) (FX120 k) (FX123 k) s).trans (b108 k s.1.1 s.1.2.1 r h)) k
theorem b67 (k : Nat) (x0 : ByteArray) : LeO (FX67 k x0) (B67 (FX106 k) x0) := by
 show LeO (All.exact_NatBits.f x0) _
 unfold All.exact_NatBits.f; unfold B67; (try simp only [FX106, All.integer_zero.f, All.exact_stepAt.f, All.S24.f0, All.S24.f1, All.rd_T24, All.z24]); exact BR
theorem ok67 (k : Nat) : FeOk Go.Proofs.Try.prog (fe67 (FX67 k)) :=
 fe_ok EOK HM (es := fun k => fes67 (FX106 k)) (fun k => List.forall_mem_cons.2 ⟨ok106 k, List.forall_mem_nil _⟩) (N := 13) (an := an67) (c := cd67) (f := 67) (fn := Go.Proofs.Try.f67) (rms := rm67) (ask := ask67) (rsk := rsk67) (enc := enc67) (dec := dec67) (tbl := []) (fun s => rfl) Go.Proofs.Try.func67 (by kernel_rfl) (by kernel_rfl) (by kernel_rfl) (fun k => les67)
  (List.forall_mem_nil _) (fun k s0 => .nil)
  (F := fun k s => FX67 k s.1.1) (fun k s r h => (e67 (FX106 k) s).trans (b67 k s.1.1 r h)) k
end Go.Proofs.YtdhdfcjpeflinaaV
set_option linter.unusedVariables false
set_option linter.unusedSimpArgs false
set_option maxRecDepth 100000
namespace Go.Proofs.YtdhdfcjpeflinaaV
open Go Go.RowKit Go.Proofs.Ytdhdfcjpeflinaa Go.Proofs.YtdhdfcjpeflinaaE Go.Proofs.YtdhdfcjpeflinaaW.PrintWords Go.Proofs.YtdhdfcjpeflinaaW.PrintLast Go.Proofs.YtdhdfcjpeflinaaW.PrintMore
@[reducible] noncomputable def GX107l0 (k : Nat) (x1 : Int) (x5 : (List Int)) (x6 : (List Int)) : Option R107 := All.exact_NatPow.l0 k x1 x5 x6
theorem b107l0 (k : Nat) (x1 : Int) (x5 : (List Int)) (x6 : (List Int)) : LeO (All.exact_NatPow.l0 (k + 1) x1 x5 x6) (B107l0 (GX107l0 k) (FX120 k) (FX123 k) x1 x5 x6) := by rw [All.exact_NatPow.l0]; unfold B107l0; (try simp only [GX107l0, FX119, FX120, FX123, All.integer_zero.f, All.exact_stepAt.f, All.S24.f0, All.S24.f1, All.rd_T24, All.z24]); exact BR
theorem b107 (k : Nat) (x0 : ByteArray) (x1 : Int) : LeO (FX107 k x0 x1) (B107 (GX107l0 k) (FX119 k) x0 x1) := by
 show LeO (All.exact_NatPow.f k x0 x1) _
 unfold All.exact_NatPow.f; unfold B107; (try simp only [GX107l0, FX119, FX120, FX123, All.integer_zero.f, All.exact_stepAt.f, All.S24.f0, All.S24.f1, All.rd_T24, All.z24]); exact BR
theorem ok107 (k : Nat) : FeOk Go.Proofs.Try.prog (fe107 (FX107 k)) :=
 fe_ok EOK HM (es := fun k => fes107 (FX119 k) (FX120 k) (FX123 k)) (fun k => List.forall_mem_cons.2 ⟨ok119 k, List.forall_mem_cons.2 ⟨ok120 k, List.forall_mem_cons.2 ⟨ok123 k, List.forall_mem_nil _⟩⟩⟩) (N := 25) (an := an107) (c := cd107) (f := 107) (fn := Go.Proofs.Try.f107) (rms := rm107) (ask := ask107) (rsk := rsk107) (enc := enc107) (dec := dec107) (tbl := [p107.getD 0 ⟨0, [], .skip⟩]) (fun s => rfl) Go.Proofs.Try.func107 (by kernel_rfl) (by kernel_rfl) (by kernel_rfl) (fun k => les107 (GX107l0 k))
  (List.forall_mem_cons.2 ⟨fun s => rfl, List.forall_mem_nil _⟩) (fun k s0 => .cons (by kernel_rfl) (by kernel_rfl) (fun s r h => (e107l0 (GX107l0 k) (FX119 k) (FX120 k) (FX123 k) s0 s).trans (b107l0 k s.1.1 s.1.2.1 s.1.2.2.1 r h)) (.nil))
  (F := fun k s => FX107 k s.1.1 s.1.2.1) (fun k s r h => (e107 (GX107l0 k) (FX119 k) (FX120 k) (FX123 k) s).trans (b107 k s.1.1 s.1.2.1 r h)) k
theorem b109 (k : Nat) (x0 : ByteArray) (x1 : ByteArray) : LeO (FX109 k x0 x1) (B109 x0 x1) := by
 show LeO (All.exact_NatCmp.f k x0 x1) _
 unfold All.exact_NatCmp.f
 unfold B109
 (try simp only [All.integer_zero.f, All.exact_stepAt.f, All.S24.f0, All.S24.f1, All.rd_T24, All.z24])
 (try simp only [List.take_append_drop, List.drop_length, List.append_nil, Int.zero_sub, Int.toNat_natCast, Int.reduceToNat, Int.zero_add, List.take_zero, List.nil_append, List.append_assoc, List.length_set, ite_bind_, List.take_left, BAe, bne, decide_int_eq, decide_not, wrap_mod, if_true, if_false, Bool.false_eq_true, bind_assoc_, slice_def, List.drop_zero, List.take_length, wrap_u8, bind_some_, cnd_eq_if, rdOf, ite_not, Bool.and_eq_true, Bool.or_eq_true, Bool.not_eq_true', bfalse, Bool.not_eq_false', beq_iff_eq, decide_eq_true_eq, isEmpty_eq, ite_and_, ite_or_, ne_eq, toList_mk, List.toList_toArray])
 repeat' first
 | (with_reducible refine LeO.trans ((All.exact_NatCmp.mono_l k) _ _ _) ?_; rw [All.exact_NatCmp.j0]; (try simp only [if_true, if_false, decide_eq_true_eq, Bool.false_eq_true, decide_not, ite_not, bne, decide_int_eq, beq_iff_eq, Bool.not_eq_true', bfalse, toList_mk, List.toList_toArray, ite_and_, ite_or_, Bool.and_eq_true, Bool.or_eq_true, isEmpty_eq, wrap_mod, wrap_u8, All.integer_zero.f, bind_some_, Int.toNat_natCast, Int.reduceToNat, Int.zero_sub, BAe]))
 | (with_reducible exact LeO.none _)
 | (with_reducible exact LeO.refl _)
 | (with_reducible refine LeO.posR (by with_reducible assumption) ?_)
 | (with_reducible refine LeO.negR (by with_reducible assumption) ?_)
 | (with_reducible refine LeO.bindR (by with_reducible assumption) ?_)
 | (with_reducible refine LeO.posL (by with_reducible assumption) ?_)
 | (with_reducible refine LeO.negL (by with_reducible assumption) ?_)
 | (with_reducible refine LeO.iteL (fun _ => ?_) (fun _ => ?_))
 | (with_reducible refine LeO.bindK (by with_reducible assumption) ?_)
 | (with_reducible refine LeO.bindL (fun _ _ => ?_))
 | (refine LeO.posR (by first | decide | exact Int.le_refl _ | omega | assumption) ?_)
 | (refine LeO.negR (by first | decide | omega) ?_)
theorem ok109 (k : Nat) : FeOk Go.Proofs.Try.prog (fe109 (FX109 k)) :=
 fe_ok EOK HM (es := fun k => fes109) (fun k => List.forall_mem_nil _) (N := 27) (an := an109) (c := cd109) (f := 109) (fn := Go.Proofs.Try.f109) (rms := rm109) (ask := ask109) (rsk := rsk109) (enc := enc109) (dec := dec109) (tbl := []) (fun s => rfl) Go.Proofs.Try.func109 (by kernel_rfl) (by kernel_rfl) (by kernel_rfl) (fun k => les109)
  (List.forall_mem_nil _) (fun k s0 => .nil)
  (F := fun k s => FX109 k s.1.1 s.1.2.1) (fun k s r h => (e109 s).trans (b109 k s.1.1 s.1.2.1 r h)) k
theorem b124 (k : Nat) (x0 : Int) : LeO (FX124 k x0) (B124 x0) := by
 show LeO (All.exact_NatTwo.f x0) _
 unfold All.exact_NatTwo.f; unfold B124; (try simp only [All.integer_zero.f, All.exact_stepAt.f, All.S24.f0, All.S24.f1, All.rd_T24, All.z24]); exact BR
theorem ok124 (k : Nat) : FeOk Go.Proofs.Try.prog (fe124 (FX124 k)) :=
 fe_ok EOK HM (es := fun k => fes124) (fun k => List.forall_mem_nil _) (N := 15) (an := an124) (c := cd124) (f := 124) (fn := Go.Proofs.Try.f124) (rms := rm124) (ask := ask124) (rsk := rsk124) (enc := enc124) (dec := dec124) (tbl := []) (fun s => rfl) Go.Proofs.Try.func124 (by kernel_rfl) (by kernel_rfl) (by kernel_rfl) (fun k => les124)
  (List.forall_mem_nil _) (fun k s0 => .nil)
  (F := fun k s => FX124 k s.1.1) (fun k s r h => (e124 s).trans (b124 k s.1.1 r h)) k
@[reducible] noncomputable def GX110l0 (k : Nat) (x0 : ByteArray) (x1 : Int) (x5 : ByteArray) (x6 : Int) : Option R110 := All.exact_NatRoot.l0 k x0 x1 x5 x6
theorem b110l0 (k : Nat) (x0 : ByteArray) (x1 : Int) (x5 : ByteArray) (x6 : Int) : LeO (All.exact_NatRoot.l0 (k + 1) x0 x1 x5 x6) (B110l0 (GX110l0 k) (FX95 k) (FX107 k) (FX109 k) (FX124 k) x0 x1 x5 x6) := by rw [All.exact_NatRoot.l0]; unfold B110l0; (try simp only [GX110l0, FX67, FX95, FX107, FX109, FX124, All.integer_zero.f, All.exact_stepAt.f, All.S24.f0, All.S24.f1, All.rd_T24, All.z24]); exact BR
theorem b110 (k : Nat) (x0 : ByteArray) (x1 : Int) : LeO (FX110 k x0 x1) (B110 (GX110l0 k) (FX67 k) x0 x1) := by
 show LeO (All.exact_NatRoot.f k x0 x1) _
 unfold All.exact_NatRoot.f; unfold B110; (try simp only [GX110l0, FX67, FX95, FX107, FX109, FX124, All.integer_zero.f, All.exact_stepAt.f, All.S24.f0, All.S24.f1, All.rd_T24, All.z24]); exact BR
theorem ok110 (k : Nat) : FeOk Go.Proofs.Try.prog (fe110 (FX110 k)) :=
 fe_ok EOK HM (es := fun k => fes110 (FX67 k) (FX95 k) (FX107 k) (FX109 k) (FX124 k)) (fun k => List.forall_mem_cons.2 ⟨ok67 k, List.forall_mem_cons.2 ⟨ok95 k, List.forall_mem_cons.2 ⟨ok107 k, List.forall_mem_cons.2 ⟨ok109 k, List.forall_mem_cons.2 ⟨ok124 k, List.forall_mem_nil _⟩⟩⟩⟩⟩) (N := 31) (an := an110) (c := cd110) (f := 110) (fn := Go.Proofs.Try.f110) (rms := rm110) (ask := ask110) (rsk := rsk110) (enc := enc110) (dec := dec110) (tbl := [p110.getD 0 ⟨0, [], .skip⟩]) (fun s => rfl) Go.Proofs.Try.func110 (by kernel_rfl) (by kernel_rfl) (by kernel_rfl) (fun k => les110 (GX110l0 k))
  (List.forall_mem_cons.2 ⟨fun s => rfl, List.forall_mem_nil _⟩) (fun k s0 => .cons (by kernel_rfl) (by kernel_rfl) (fun s r h => (e110l0 (GX110l0 k) (FX67 k) (FX95 k) (FX107 k) (FX109 k) (FX124 k) s0 s).trans (b110l0 k s.1.1 s.1.2.1 s.1.2.2.1 s.1.2.2.2.1 r h)) (.nil))
  (F := fun k s => FX110 k s.1.1 s.1.2.1) (fun k s r h => (e110 (GX110l0 k) (FX67 k) (FX95 k) (FX107 k) (FX109 k) (FX124 k) s).trans (b110 k s.1.1 s.1.2.1 r h)) k
theorem b76 (k : Nat) (x0 : (Bool × ByteArray)) : LeO (FX76 k x0) (B76 (FX108 k) (FX110 k) x0) := by
 show LeO (All.exact_IntSqrt.f k x0.1 x0.2) _
 unfold All.exact_IntSqrt.f; unfold B76; (try simp only [FX108, FX110, All.integer_zero.f, All.exact_stepAt.f, All.S24.f0, All.S24.f1, All.rd_T24, All.z24]); exact BR
theorem ok76 (k : Nat) : FeOk Go.Proofs.Try.prog (fe76 (FX76 k)) :=
 fe_ok EOK HM (es := fun k => fes76 (FX108 k) (FX110 k)) (fun k => List.forall_mem_cons.2 ⟨ok108 k, List.forall_mem_cons.2 ⟨ok110 k, List.forall_mem_nil _⟩⟩) (N := 20) (an := an76) (c := cd76) (f := 76) (fn := Go.Proofs.Try.f76) (rms := rm76) (ask := ask76) (rsk := rsk76) (enc := enc76) (dec := dec76) (tbl := []) (fun s => rfl) Go.Proofs.Try.func76 (by kernel_rfl) (by kernel_rfl) (by kernel_rfl) (fun k => les76)
  (List.forall_mem_nil _) (fun k s0 => .nil)
  (F := fun k s => FX76 k s.1.1) (fun k s r h => (e76 (FX108 k) (FX110 k) s).trans (b76 k s.1.1 r h)) k
theorem b28 (k : Nat) (x0 : (Bool × ByteArray)) : LeO (FX28 k x0) (B28 (FX33 k) (FX53 k) (FX76 k) x0) := by
 show LeO (All.integer_IsSquare.f k x0.1 x0.2) _
 unfold All.integer_IsSquare.f; unfold B28; (try simp only [FX33, FX53, FX76, All.integer_zero.f, All.exact_stepAt.f, All.S24.f0, All.S24.f1, All.rd_T24, All.z24]); exact BR
theorem ok28 (k : Nat) : FeOk Go.Proofs.Try.prog (fe28 (FX28 k)) :=
 fe_ok EOK HM (es := fun k => fes28 (FX33 k) (FX53 k) (FX76 k)) (fun k => List.forall_mem_cons.2 ⟨ok33 k, List.forall_mem_cons.2 ⟨ok53 k, List.forall_mem_cons.2 ⟨ok76 k, List.forall_mem_nil _⟩⟩⟩) (N := 21) (an := an28) (c := cd28) (f := 28) (fn := Go.Proofs.Try.f28) (rms := rm28) (ask := ask28) (rsk := rsk28) (enc := enc28) (dec := dec28) (tbl := []) (fun s => rfl) Go.Proofs.Try.func28 (by kernel_rfl) (by kernel_rfl) (by kernel_rfl) (fun k => les28)
  (List.forall_mem_nil _) (fun k s0 => .nil)
  (F := fun k s => FX28 k s.1.1) (fun k s r h => (e28 (FX33 k) (FX53 k) (FX76 k) s).trans (b28 k s.1.1 r h)) k
theorem b12 (k : Nat) : LeO (FX12 k) (B12 (FX14 k) (FX15 k) (FX16 k) (FX27 k) (FX28 k) (FX30 k)) := by
 show LeO (All.galoislaw02_awake.f k) _
 unfold All.galoislaw02_awake.f
 unfold B12
 (try simp only [FX14, FX15, FX16, FX27, FX28, FX30, All.integer_zero.f, All.exact_stepAt.f, All.S24.f0, All.S24.f1, All.rd_T24, All.z24])
 (try simp only [List.take_append_drop, List.drop_length, List.append_nil, Int.zero_sub, Int.toNat_natCast, Int.reduceToNat, Int.zero_add, List.take_zero, List.nil_append, List.append_assoc, List.length_set, ite_bind_, List.take_left, BAe, bne, decide_int_eq, decide_not, wrap_mod, if_true, if_false, Bool.false_eq_true, bind_assoc_, slice_def, List.drop_zero, List.take_length, wrap_u8, bind_some_, cnd_eq_if, rdOf, ite_not, Bool.and_eq_true, Bool.or_eq_true, Bool.not_eq_true', bfalse, Bool.not_eq_false', beq_iff_eq, decide_eq_true_eq, isEmpty_eq, ite_and_, ite_or_, ne_eq, toList_mk, List.toList_toArray])
 repeat' first
 | (with_reducible refine LeO.trans ((All.galoislaw02_awake.mono_l k) _ _ _ _ _ _ _ _ _ _ _ _ _ _ _ _) ?_; rw [All.galoislaw02_awake.j0]; (try simp only [if_true, if_false, decide_eq_true_eq, Bool.false_eq_true, decide_not, ite_not, bne, decide_int_eq, beq_iff_eq, Bool.not_eq_true', bfalse, toList_mk, List.toList_toArray, ite_and_, ite_or_, Bool.and_eq_true, Bool.or_eq_true, isEmpty_eq, wrap_mod, wrap_u8, All.integer_zero.f, bind_some_, Int.toNat_natCast, Int.reduceToNat, Int.zero_sub, BAe]))
 | (with_reducible exact LeO.none _)
 | (with_reducible exact LeO.refl _)
 | (with_reducible refine LeO.posR (by with_reducible assumption) ?_)
 | (with_reducible refine LeO.negR (by with_reducible assumption) ?_)
 | (with_reducible refine LeO.bindR (by with_reducible assumption) ?_)
 | (with_reducible refine LeO.posL (by with_reducible assumption) ?_)
 | (with_reducible refine LeO.negL (by with_reducible assumption) ?_)
 | (with_reducible refine LeO.iteL (fun _ => ?_) (fun _ => ?_))
 | (with_reducible refine LeO.bindK (by with_reducible assumption) ?_)
 | (with_reducible refine LeO.bindL (fun _ _ => ?_))
 | (refine LeO.posR (by first | decide | exact Int.le_refl _ | omega | assumption) ?_)
 | (refine LeO.negR (by first | decide | omega) ?_)
theorem ok12 (k : Nat) : FeOk Go.Proofs.Try.prog (fe12 (FX12 k)) :=
 fe_ok EOK HM (es := fun k => fes12 (FX14 k) (FX15 k) (FX16 k) (FX27 k) (FX28 k) (FX30 k)) (fun k => List.forall_mem_cons.2 ⟨ok14 k, List.forall_mem_cons.2 ⟨ok15 k, List.forall_mem_cons.2 ⟨ok16 k, List.forall_mem_cons.2 ⟨ok27 k, List.forall_mem_cons.2 ⟨ok28 k, List.forall_mem_cons.2 ⟨ok30 k, List.forall_mem_nil _⟩⟩⟩⟩⟩⟩) (N := 127) (an := an12) (c := cd12) (f := 12) (fn := Go.Proofs.Try.f12) (rms := rm12) (ask := ask12) (rsk := rsk12) (enc := enc12) (dec := dec12) (tbl := []) (fun s => rfl) Go.Proofs.Try.func12 (by kernel_rfl) (by kernel_rfl) (by kernel_rfl) (fun k => les12)
  (List.forall_mem_nil _) (fun k s0 => .nil)
  (F := fun k s => FX12 k) (fun k s r h => (e12 (FX14 k) (FX15 k) (FX16 k) (FX27 k) (FX28 k) (FX30 k) s).trans (b12 k r h)) k
theorem b101 (k : Nat) (x0 : ByteArray) : LeO (FX101 k x0) (B101 x0) := by
 show LeO (All.galoisref01_Valid.f x0) _
 unfold All.galoisref01_Valid.f; unfold B101; (try simp only [All.integer_zero.f, All.exact_stepAt.f, All.S24.f0, All.S24.f1, All.rd_T24, All.z24]); exact BR
theorem ok101 (k : Nat) : FeOk Go.Proofs.Try.prog (fe101 (FX101 k)) :=
 fe_ok EOK HM (es := fun k => fes101) (fun k => List.forall_mem_nil _) (N := 10) (an := an101) (c := cd101) (f := 101) (fn := Go.Proofs.Try.f101) (rms := rm101) (ask := ask101) (rsk := rsk101) (enc := enc101) (dec := dec101) (tbl := []) (fun s => rfl) Go.Proofs.Try.func101 (by kernel_rfl) (by kernel_rfl) (by kernel_rfl) (fun k => les101)
  (List.forall_mem_nil _) (fun k s0 => .nil)
  (F := fun k s => FX101 k s.1.1) (fun k s r h => (e101 s).trans (b101 k s.1.1 r h)) k
theorem b58 (k : Nat) (x0 : (Bool × ByteArray)) : LeO (FX58 k x0) (B58 (FX101 k) x0) := by
 show LeO (All.galoisref02_Valid.f x0.1 x0.2) _
 unfold All.galoisref02_Valid.f; unfold B58; (try simp only [FX101, All.integer_zero.f, All.exact_stepAt.f, All.S24.f0, All.S24.f1, All.rd_T24, All.z24]); exact BR
theorem ok58 (k : Nat) : FeOk Go.Proofs.Try.prog (fe58 (FX58 k)) :=
 fe_ok EOK HM (es := fun k => fes58 (FX101 k)) (fun k => List.forall_mem_cons.2 ⟨ok101 k, List.forall_mem_nil _⟩) (N := 16) (an := an58) (c := cd58) (f := 58) (fn := Go.Proofs.Try.f58) (rms := rm58) (ask := ask58) (rsk := rsk58) (enc := enc58) (dec := dec58) (tbl := []) (fun s => rfl) Go.Proofs.Try.func58 (by kernel_rfl) (by kernel_rfl) (by kernel_rfl) (fun k => les58)
  (List.forall_mem_nil _) (fun k s0 => .nil)
  (F := fun k s => FX58 k s.1.1) (fun k s r h => (e58 (FX101 k) s).trans (b58 k s.1.1 r h)) k
theorem b102 (k : Nat) (x0 : ByteArray) : LeO (FX102 k x0) (B102 x0) := by
 show LeO (All.galoisref01_Fits.f x0) _
 unfold All.galoisref01_Fits.f; unfold B102; (try simp only [All.integer_zero.f, All.exact_stepAt.f, All.S24.f0, All.S24.f1, All.rd_T24, All.z24]); exact BR
theorem ok102 (k : Nat) : FeOk Go.Proofs.Try.prog (fe102 (FX102 k)) :=
 fe_ok EOK HM (es := fun k => fes102) (fun k => List.forall_mem_nil _) (N := 6) (an := an102) (c := cd102) (f := 102) (fn := Go.Proofs.Try.f102) (rms := rm102) (ask := ask102) (rsk := rsk102) (enc := enc102) (dec := dec102) (tbl := []) (fun s => rfl) Go.Proofs.Try.func102 (by kernel_rfl) (by kernel_rfl) (by kernel_rfl) (fun k => les102)
  (List.forall_mem_nil _) (fun k s0 => .nil)
  (F := fun k s => FX102 k s.1.1) (fun k s r h => (e102 s).trans (b102 k s.1.1 r h)) k
theorem b59 (k : Nat) (x0 : (Bool × ByteArray)) : LeO (FX59 k x0) (B59 (FX102 k) x0) := by
 show LeO (All.galoisref02_Fits.f x0.1 x0.2) _
 unfold All.galoisref02_Fits.f; unfold B59; (try simp only [FX102, All.integer_zero.f, All.exact_stepAt.f, All.S24.f0, All.S24.f1, All.rd_T24, All.z24]); exact BR
theorem ok59 (k : Nat) : FeOk Go.Proofs.Try.prog (fe59 (FX59 k)) :=
 fe_ok EOK HM (es := fun k => fes59 (FX102 k)) (fun k => List.forall_mem_cons.2 ⟨ok102 k, List.forall_mem_nil _⟩) (N := 6) (an := an59) (c := cd59) (f := 59) (fn := Go.Proofs.Try.f59) (rms := rm59) (ask := ask59) (rsk := rsk59) (enc := enc59) (dec := dec59) (tbl := []) (fun s => rfl) Go.Proofs.Try.func59 (by kernel_rfl) (by kernel_rfl) (by kernel_rfl) (fun k => les59)
  (List.forall_mem_nil _) (fun k s0 => .nil)
  (F := fun k s => FX59 k s.1.1) (fun k s r h => (e59 (FX102 k) s).trans (b59 k s.1.1 r h)) k
theorem b17 (k : Nat) (x0 : (Bool × ByteArray)) : LeO (FX17 k x0) (B17 (FX58 k) (FX59 k) x0) := by
 show LeO (All.galoisref02_Check.f x0.1 x0.2) _
 unfold All.galoisref02_Check.f; unfold B17; (try simp only [FX58, FX59, All.integer_zero.f, All.exact_stepAt.f, All.S24.f0, All.S24.f1, All.rd_T24, All.z24]); exact BR
theorem ok17 (k : Nat) : FeOk Go.Proofs.Try.prog (fe17 (FX17 k)) :=
 fe_ok EOK HM (es := fun k => fes17 (FX58 k) (FX59 k)) (fun k => List.forall_mem_cons.2 ⟨ok58 k, List.forall_mem_cons.2 ⟨ok59 k, List.forall_mem_nil _⟩⟩) (N := 8) (an := an17) (c := cd17) (f := 17) (fn := Go.Proofs.Try.f17) (rms := rm17) (ask := ask17) (rsk := rsk17) (enc := enc17) (dec := dec17) (tbl := []) (fun s => rfl) Go.Proofs.Try.func17 (by kernel_rfl) (by kernel_rfl) (by kernel_rfl) (fun k => les17)
  (List.forall_mem_nil _) (fun k s0 => .nil)
  (F := fun k s => FX17 k s.1.1) (fun k s r h => (e17 (FX58 k) (FX59 k) s).trans (b17 k s.1.1 r h)) k
theorem b19 (k : Nat) (x0 : (Bool × ByteArray)) (x1 : Int) (x2 : Int) (x3 : (Bool × ByteArray)) : LeO (FX19 k x0 x1 x2 x3) (B19 (FX59 k) x0 x1 x2 x3) := by
 show LeO (All.galoislaw02_right.f x0.1 x0.2 x1 x2 x3.1 x3.2) _
 unfold All.galoislaw02_right.f; unfold B19; (try simp only [FX59, All.integer_zero.f, All.exact_stepAt.f, All.S24.f0, All.S24.f1, All.rd_T24, All.z24]); exact BR
theorem ok19 (k : Nat) : FeOk Go.Proofs.Try.prog (fe19 (FX19 k)) :=
 fe_ok EOK HM (es := fun k => fes19 (FX59 k)) (fun k => List.forall_mem_cons.2 ⟨ok59 k, List.forall_mem_nil _⟩) (N := 30) (an := an19) (c := cd19) (f := 19) (fn := Go.Proofs.Try.f19) (rms := rm19) (ask := ask19) (rsk := rsk19) (enc := enc19) (dec := dec19) (tbl := []) (fun s => rfl) Go.Proofs.Try.func19 (by kernel_rfl) (by kernel_rfl) (by kernel_rfl) (fun k => les19)
  (List.forall_mem_nil _) (fun k s0 => .nil)
  (F := fun k s => FX19 k s.1.1 s.1.2.1 s.1.2.2.1 s.1.2.2.2.1) (fun k s r h => (e19 (FX59 k) s).trans (b19 k s.1.1 s.1.2.1 s.1.2.2.1 s.1.2.2.2.1 r h)) k
theorem b60 (k : Nat) (x0 : Int) : LeO (FX60 k x0) (B60 (FX63 k) x0) := by
 show LeO (All.galoisref01_FromInt.f k x0) _
 unfold All.galoisref01_FromInt.f; unfold B60; (try simp only [FX63, All.integer_zero.f, All.exact_stepAt.f, All.S24.f0, All.S24.f1, All.rd_T24, All.z24]); exact BR
theorem ok60 (k : Nat) : FeOk Go.Proofs.Try.prog (fe60 (FX60 k)) :=
 fe_ok EOK HM (es := fun k => fes60 (FX63 k)) (fun k => List.forall_mem_cons.2 ⟨ok63 k, List.forall_mem_nil _⟩) (N := 6) (an := an60) (c := cd60) (f := 60) (fn := Go.Proofs.Try.f60) (rms := rm60) (ask := ask60) (rsk := rsk60) (enc := enc60) (dec := dec60) (tbl := []) (fun s => rfl) Go.Proofs.Try.func60 (by kernel_rfl) (by kernel_rfl) (by kernel_rfl) (fun k => les60)
  (List.forall_mem_nil _) (fun k s0 => .nil)
  (F := fun k s => FX60 k s.1.1) (fun k s r h => (e60 (FX63 k) s).trans (b60 k s.1.1 r h)) k
theorem ok117 (k : Nat) : FeOk Go.Proofs.Try.prog (fe117 (FX117 k)) :=
 fe_ok EOK HM (es := fun k => fes117) (fun k => List.forall_mem_nil _) (N := 21) (an := an117) (c := cd117) (f := 117) (fn := Go.Proofs.Try.f117) (rms := rm117) (ask := ask117) (rsk := rsk117) (enc := enc117) (dec := dec117) (tbl := [p117.getD 0 ⟨0, [], .skip⟩]) (fun s => rfl) Go.Proofs.Try.func117 (by kernel_rfl) (by kernel_rfl) (by kernel_rfl) (fun k => les117 (GX117l0 k))
  (List.forall_mem_cons.2 ⟨fun s => by show ite _ _ _ = none; split <;> rfl, List.forall_mem_nil _⟩) (fun k s0 => .cons (by kernel_rfl) (by kernel_rfl) (fun s r h => (e117l0 (GX117l0 k) s0 s).trans (b117l0 k s.1.1 s.2.1 r h)) (.nil))
  (F := fun k s => FX117 k s.2.1) (fun k s r h => (e117 (GX117l0 k) s).trans (b117 k s.2.1 r h)) k
@[reducible] noncomputable def GX103l0 (k : Nat) (x0 : ByteArray) (x4 : Int) (x3 : (List Int)) : Option R103 := All.galoisref01_limbs.l0 k x0 x3 x4
@[reducible] noncomputable def GX103l1 (k : Nat) (x0 : ByteArray) (x4 : Int) (x5 : Int) (x6 : Int) (x3 : (List Int)) : Option R103 := All.galoisref01_limbs.l1 k x0 x3 x4 x5 x6
theorem b103l0 (k : Nat) (x0 : ByteArray) (x4 : Int) (x3 : (List Int)) : LeO (All.galoisref01_limbs.l0 (k + 1) x0 x3 x4) (B103l0 (GX103l1 k) (FX117 k) x0 x4 x3) := by rw [All.galoisref01_limbs.l0]; unfold B103l0; (try simp only [GX103l0, GX103l1, FX117, All.integer_zero.f, All.exact_stepAt.f, All.S24.f0, All.S24.f1, All.rd_T24, All.z24]); exact BR
theorem b103l1 (k : Nat) (x0 : ByteArray) (x4 : Int) (x5 : Int) (x6 : Int) (x3 : (List Int)) : LeO (All.galoisref01_limbs.l1 (k + 1) x0 x3 x4 x5 x6) (B103l1 (GX103l0 k) (GX103l1 k) x0 x4 x5 x6 x3) := by rw [All.galoisref01_limbs.l1]; unfold B103l1; (try simp only [GX103l0, GX103l1, FX117, All.integer_zero.f, All.exact_stepAt.f, All.S24.f0, All.S24.f1, All.rd_T24, All.z24]); exact BR
theorem b103 (k : Nat) (x0 : ByteArray) : LeO (FX103 k x0) (B103 (GX103l0 k) x0) := by
 show LeO (All.galoisref01_limbs.f k x0) _
 unfold All.galoisref01_limbs.f; unfold B103; (try simp only [GX103l0, GX103l1, FX117, All.integer_zero.f, All.exact_stepAt.f, All.S24.f0, All.S24.f1, All.rd_T24, All.z24]); exact BR
theorem ok103 (k : Nat) : FeOk Go.Proofs.Try.prog (fe103 (FX103 k)) :=
 fe_ok EOK HM (es := fun k => fes103 (FX117 k)) (fun k => List.forall_mem_cons.2 ⟨ok117 k, List.forall_mem_nil _⟩) (N := 34) (an := an103) (c := cd103) (f := 103) (fn := Go.Proofs.Try.f103) (rms := rm103) (ask := ask103) (rsk := rsk103) (enc := enc103) (dec := dec103) (tbl := [p103.getD 0 ⟨0, [], .skip⟩, p103.getD 1 ⟨0, [], .skip⟩]) (fun s => rfl) Go.Proofs.Try.func103 (by kernel_rfl) (by kernel_rfl) (by kernel_rfl) (fun k => les103 (GX103l0 k) (GX103l1 k))
  (List.forall_mem_cons.2 ⟨fun s => rfl, List.forall_mem_cons.2 ⟨fun s => rfl, List.forall_mem_nil _⟩⟩) (fun k s0 => .cons (by kernel_rfl) (by kernel_rfl) (fun s r h => (e103l0 (GX103l0 k) (GX103l1 k) (FX117 k) s0 s).trans (b103l0 k s.1.1 s.1.2.1 s.2.1 r h)) (.cons (by kernel_rfl) (by kernel_rfl) (fun s r h => (e103l1 (GX103l0 k) (GX103l1 k) (FX117 k) s0 s).trans (b103l1 k s.1.1 s.1.2.1 s.1.2.2.1 s.1.2.2.2.1 s.2.1 r h)) (.nil)))
  (F := fun k s => FX103 k s.1.1) (fun k s r h => (e103 (GX103l0 k) (GX103l1 k) (FX117 k) s).trans (b103 k s.1.1 r h)) k
theorem ok104 (k : Nat) : FeOk Go.Proofs.Try.prog (fe104 (FX104 k)) :=
 fe_ok EOK HM (es := fun k => fes104 (FX117 k)) (fun k => List.forall_mem_cons.2 ⟨ok117 k, List.forall_mem_nil _⟩) (N := 43) (an := an104) (c := cd104) (f := 104) (fn := Go.Proofs.Try.f104) (rms := rm104) (ask := ask104) (rsk := rsk104) (enc := enc104) (dec := dec104) (tbl := [p104.getD 0 ⟨0, [], .skip⟩]) (fun s => rfl) Go.Proofs.Try.func104 (by kernel_rfl) (by kernel_rfl) (by kernel_rfl) (fun k => les104 (GX104l0 k))
  (List.forall_mem_cons.2 ⟨fun s => by show ite _ _ _ = none; split <;> rfl, List.forall_mem_nil _⟩) (fun k s0 => .cons (by kernel_rfl) (by kernel_rfl) (fun s r h => (e104l0 (GX104l0 k) (FX117 k) s0 s).trans (b104l0 k s.1.1 s.1.2.1 s.1.2.2.1 s.2.1 r h)) (.nil))
  (F := fun k s => FX104 k s.1.1 s.2.1) (fun k s r h => (e104 (GX104l0 k) (FX117 k) s).trans (b104 k s.1.1 s.2.1 r h)) k
@[reducible] noncomputable def GX61l0 (k : Nat) (x7 : (List Int)) (x8 : Int) (x11 : Int) (x9 : (List Int)) (x10 : (List Int)) : Option R61 := All.galoisref01_DivMod.l0 k x7 x8 x9 x10 x11
@[reducible] noncomputable def GX61l1 (k : Nat) (x7 : (List Int)) (x8 : Int) (x11 : Int) (x9 : (List Int)) (x10 : (List Int)) : Option R61 := All.galoisref01_DivMod.l1 k x7 x8 x9 x10 x11
@[reducible] noncomputable def GX61l2 (k : Nat) (x7 : (List Int)) (x8 : Int) (x11 : Int) (x12 : Int) (x13 : Int) (x14 : Int) (x9 : (List Int)) (x10 : (List Int)) : Option R61 := All.galoisref01_DivMod.l2 k x7 x8 x9 x10 x11 x12 x13 x14
theorem b61l0 (k : Nat) (x7 : (List Int)) (x8 : Int) (x11 : Int) (x9 : (List Int)) (x10 : (List Int)) : LeO (All.galoisref01_DivMod.l0 (k + 1) x7 x8 x9 x10 x11) (B61l0 (GX61l1 k) (FX105 k) x7 x8 x11 x9 x10) := by rw [All.galoisref01_DivMod.l0]; unfold B61l0; (try simp only [GX61l0, GX61l1, GX61l2, FX103, FX104, FX105, All.integer_zero.f, All.exact_stepAt.f, All.S24.f0, All.S24.f1, All.rd_T24, All.z24]); exact BR
theorem b61l1 (k : Nat) (x7 : (List Int)) (x8 : Int) (x11 : Int) (x9 : (List Int)) (x10 : (List Int)) : LeO (All.galoisref01_DivMod.l1 (k + 1) x7 x8 x9 x10 x11) (B61l1 (GX61l0 k) (GX61l2 k) (FX104 k) x7 x8 x11 x9 x10) := by rw [All.galoisref01_DivMod.l1]; unfold B61l1; (try simp only [GX61l0, GX61l1, GX61l2, FX103, FX104, FX105, All.integer_zero.f, All.exact_stepAt.f, All.S24.f0, All.S24.f1, All.rd_T24, All.z24]); exact BR
theorem b61l2 (k : Nat) (x7 : (List Int)) (x8 : Int) (x11 : Int) (x12 : Int) (x13 : Int) (x14 : Int) (x9 : (List Int)) (x10 : (List Int)) : LeO (All.galoisref01_DivMod.l2 (k + 1) x7 x8 x9 x10 x11 x12 x13 x14) (B61l2 (GX61l1 k) (GX61l2 k) x7 x8 x11 x12 x13 x14 x9 x10) := by rw [All.galoisref01_DivMod.l2]; unfold B61l2; (try simp only [GX61l0, GX61l1, GX61l2, FX103, FX104, FX105, All.integer_zero.f, All.exact_stepAt.f, All.S24.f0, All.S24.f1, All.rd_T24, All.z24]); exact BR
theorem b61 (k : Nat) (x0 : ByteArray) (x1 : ByteArray) : LeO (FX61 k x0 x1) (B61 (GX61l0 k) (FX103 k) x0 x1) := by
 show LeO (All.galoisref01_DivMod.f k x0 x1) _
 unfold All.galoisref01_DivMod.f; unfold B61; (try simp only [GX61l0, GX61l1, GX61l2, FX103, FX104, FX105, All.integer_zero.f, All.exact_stepAt.f, All.S24.f0, All.S24.f1, All.rd_T24, All.z24]); exact BR
theorem ok61 (k : Nat) : FeOk Go.Proofs.Try.prog (fe61 (FX61 k)) :=
 fe_ok EOK HM (es := fun k => fes61 (FX103 k) (FX104 k) (FX105 k)) (fun k => List.forall_mem_cons.2 ⟨ok103 k, List.forall_mem_cons.2 ⟨ok104 k, List.forall_mem_cons.2 ⟨ok105 k, List.forall_mem_nil _⟩⟩⟩) (N := 148) (an := an61) (c := cd61) (f := 61) (fn := Go.Proofs.Try.f61) (rms := rm61) (ask := ask61) (rsk := rsk61) (enc := enc61) (dec := dec61) (tbl := [p61.getD 0 ⟨0, [], .skip⟩, p61.getD 1 ⟨0, [], .skip⟩, p61.getD 2 ⟨0, [], .skip⟩]) (fun s => rfl) Go.Proofs.Try.func61 (by kernel_rfl) (by kernel_rfl) (by kernel_rfl) (fun k => les61 (GX61l0 k) (GX61l1 k) (GX61l2 k))
  (List.forall_mem_cons.2 ⟨fun s => rfl, List.forall_mem_cons.2 ⟨fun s => rfl, List.forall_mem_cons.2 ⟨fun s => rfl, List.forall_mem_nil _⟩⟩⟩) (fun k s0 => .cons (by kernel_rfl) (by kernel_rfl) (fun s r h => (e61l0 (GX61l0 k) (GX61l1 k) (GX61l2 k) (FX103 k) (FX104 k) (FX105 k) s0 s).trans (b61l0 k s.1.1 s.1.2.1 s.1.2.2.1 s.2.1 s.2.2.1 r h)) (.cons (by kernel_rfl) (by kernel_rfl) (fun s r h => (e61l1 (GX61l0 k) (GX61l1 k) (GX61l2 k) (FX103 k) (FX104 k) (FX105 k) s0 s).trans (b61l1 k s.1.1 s.1.2.1 s.1.2.2.1 s.2.1 s.2.2.1 r h)) (.cons (by kernel_rfl) (by kernel_rfl) (fun s r h => (e61l2 (GX61l0 k) (GX61l1 k) (GX61l2 k) (FX103 k) (FX104 k) (FX105 k) s0 s).trans (b61l2 k s.1.1 s.1.2.1 s.1.2.2.1 s.1.2.2.2.1 s.1.2.2.2.2.1 s.1.2.2.2.2.2.1 s.2.1 s.2.2.1 r h)) (.nil))))
  (F := fun k s => FX61 k s.1.1 s.1.2.1) (fun k s r h => (e61 (GX61l0 k) (GX61l1 k) (GX61l2 k) (FX103 k) (FX104 k) (FX105 k) s).trans (b61 k s.1.1 s.1.2.1 r h)) k
@[reducible] noncomputable def GX62l0 (k : Nat) (x8 : Int) (x9 : Int) (x5 : (List Int)) (x6 : (List Int)) (x7 : (List Int)) : Option R62 := All.galoisref01_Add.l0 k x5 x6 x7 x8 x9
theorem b62l0 (k : Nat) (x8 : Int) (x9 : Int) (x5 : (List Int)) (x6 : (List Int)) (x7 : (List Int)) : LeO (All.galoisref01_Add.l0 (k + 1) x5 x6 x7 x8 x9) (B62l0 (GX62l0 k) (FX105 k) x8 x9 x5 x6 x7) := by
 rw [All.galoisref01_Add.l0]
 unfold B62l0
 (try simp only [GX62l0, FX103, FX105, All.integer_zero.f, All.exact_stepAt.f, All.S24.f0, All.S24.f1, All.rd_T24, All.z24])
 (try simp only [List.take_append_drop, List.drop_length, List.append_nil, Int.zero_sub, Int.toNat_natCast, Int.reduceToNat, Int.zero_add, List.take_zero, List.nil_append, List.append_assoc, List.length_set, ite_bind_, List.take_left, BAe, bne, decide_int_eq, decide_not, wrap_mod, if_true, if_false, Bool.false_eq_true, bind_assoc_, slice_def, List.drop_zero, List.take_length, wrap_u8, bind_some_, cnd_eq_if, rdOf, ite_not, Bool.and_eq_true, Bool.or_eq_true, Bool.not_eq_true', bfalse, Bool.not_eq_false', beq_iff_eq, decide_eq_true_eq, isEmpty_eq, ite_and_, ite_or_, ne_eq, toList_mk, List.toList_toArray])
 repeat' first
 | (with_reducible refine LeO.trans ((All.galoisref01_Add.mono_l k).2 _ _ _ _ _ _) ?_; rw [All.galoisref01_Add.j1]; (try simp only [if_true, if_false, decide_eq_true_eq, Bool.false_eq_true, decide_not, ite_not, bne, decide_int_eq, beq_iff_eq, Bool.not_eq_true', bfalse, toList_mk, List.toList_toArray, ite_and_, ite_or_, Bool.and_eq_true, Bool.or_eq_true, isEmpty_eq, wrap_mod, wrap_u8, All.integer_zero.f, bind_some_, Int.toNat_natCast, Int.reduceToNat, Int.zero_sub, BAe]))
 | (with_reducible exact LeO.none _)
 | (with_reducible exact LeO.refl _)
 | (with_reducible refine LeO.posR (by with_reducible assumption) ?_)
 | (with_reducible refine LeO.negR (by with_reducible assumption) ?_)
 | (with_reducible refine LeO.bindR (by with_reducible assumption) ?_)
 | (with_reducible refine LeO.posL (by with_reducible assumption) ?_)
 | (with_reducible refine LeO.negL (by with_reducible assumption) ?_)
 | (with_reducible refine LeO.iteL (fun _ => ?_) (fun _ => ?_))
 | (with_reducible refine LeO.bindK (by with_reducible assumption) ?_)
 | (with_reducible refine LeO.bindL (fun _ _ => ?_))
 | (refine LeO.posR (by first | decide | exact Int.le_refl _ | omega | assumption) ?_)
 | (refine LeO.negR (by first | decide | omega) ?_)
theorem b62 (k : Nat) (x0 : ByteArray) (x1 : ByteArray) : LeO (FX62 k x0 x1) (B62 (GX62l0 k) (FX103 k) x0 x1) := by
 show LeO (All.galoisref01_Add.f k x0 x1) _
 unfold All.galoisref01_Add.f
 unfold B62
 (try simp only [GX62l0, FX103, FX105, All.integer_zero.f, All.exact_stepAt.f, All.S24.f0, All.S24.f1, All.rd_T24, All.z24])
 (try simp only [List.take_append_drop, List.drop_length, List.append_nil, Int.zero_sub, Int.toNat_natCast, Int.reduceToNat, Int.zero_add, List.take_zero, List.nil_append, List.append_assoc, List.length_set, ite_bind_, List.take_left, BAe, bne, decide_int_eq, decide_not, wrap_mod, if_true, if_false, Bool.false_eq_true, bind_assoc_, slice_def, List.drop_zero, List.take_length, wrap_u8, bind_some_, cnd_eq_if, rdOf, ite_not, Bool.and_eq_true, Bool.or_eq_true, Bool.not_eq_true', bfalse, Bool.not_eq_false', beq_iff_eq, decide_eq_true_eq, isEmpty_eq, ite_and_, ite_or_, ne_eq, toList_mk, List.toList_toArray])
 repeat' first
 | (with_reducible refine LeO.trans ((All.galoisref01_Add.mono_l k).2 _ _ _ _ _ _) ?_; rw [All.galoisref01_Add.j1]; (try simp only [if_true, if_false, decide_eq_true_eq, Bool.false_eq_true, decide_not, ite_not, bne, decide_int_eq, beq_iff_eq, Bool.not_eq_true', bfalse, toList_mk, List.toList_toArray, ite_and_, ite_or_, Bool.and_eq_true, Bool.or_eq_true, isEmpty_eq, wrap_mod, wrap_u8, All.integer_zero.f, bind_some_, Int.toNat_natCast, Int.reduceToNat, Int.zero_sub, BAe]))
 | (with_reducible exact LeO.none _)
 | (with_reducible exact LeO.refl _)
 | (with_reducible refine LeO.posR (by with_reducible assumption) ?_)
 | (with_reducible refine LeO.negR (by with_reducible assumption) ?_)
 | (with_reducible refine LeO.bindR (by with_reducible assumption) ?_)
 | (with_reducible refine LeO.posL (by with_reducible assumption) ?_)
 | (with_reducible refine LeO.negL (by with_reducible assumption) ?_)
 | (with_reducible refine LeO.iteL (fun _ => ?_) (fun _ => ?_))
 | (with_reducible refine LeO.bindK (by with_reducible assumption) ?_)
 | (with_reducible refine LeO.bindL (fun _ _ => ?_))
 | (refine LeO.posR (by first | decide | exact Int.le_refl _ | omega | assumption) ?_)
 | (refine LeO.negR (by first | decide | omega) ?_)
theorem ok62 (k : Nat) : FeOk Go.Proofs.Try.prog (fe62 (FX62 k)) :=
 fe_ok EOK HM (es := fun k => fes62 (FX103 k) (FX105 k)) (fun k => List.forall_mem_cons.2 ⟨ok103 k, List.forall_mem_cons.2 ⟨ok105 k, List.forall_mem_nil _⟩⟩) (N := 61) (an := an62) (c := cd62) (f := 62) (fn := Go.Proofs.Try.f62) (rms := rm62) (ask := ask62) (rsk := rsk62) (enc := enc62) (dec := dec62) (tbl := [p62.getD 0 ⟨0, [], .skip⟩]) (fun s => rfl) Go.Proofs.Try.func62 (by kernel_rfl) (by kernel_rfl) (by kernel_rfl) (fun k => les62 (GX62l0 k))
  (List.forall_mem_cons.2 ⟨fun s => rfl, List.forall_mem_nil _⟩) (fun k s0 => .cons (by kernel_rfl) (by kernel_rfl) (fun s r h => (e62l0 (GX62l0 k) (FX103 k) (FX105 k) s0 s).trans (b62l0 k s.1.1 s.1.2.1 s.2.1 s.2.2.1 s.2.2.2.1 r h)) (.nil))
  (F := fun k s => FX62 k s.1.1 s.1.2.1) (fun k s r h => (e62 (GX62l0 k) (FX103 k) (FX105 k) s).trans (b62 k s.1.1 s.1.2.1 r h)) k
theorem b39 (k : Nat) (x0 : ByteArray) (x1 : ByteArray) : LeO (FX39 k x0 x1) (B39 x0 x1) := by
 show LeO (All.galoisref01_Compare.f k x0 x1) _
 unfold All.galoisref01_Compare.f
 unfold B39
 (try simp only [All.integer_zero.f, All.exact_stepAt.f, All.S24.f0, All.S24.f1, All.rd_T24, All.z24])
 (try simp only [List.take_append_drop, List.drop_length, List.append_nil, Int.zero_sub, Int.toNat_natCast, Int.reduceToNat, Int.zero_add, List.take_zero, List.nil_append, List.append_assoc, List.length_set, ite_bind_, List.take_left, BAe, bne, decide_int_eq, decide_not, wrap_mod, if_true, if_false, Bool.false_eq_true, bind_assoc_, slice_def, List.drop_zero, List.take_length, wrap_u8, bind_some_, cnd_eq_if, rdOf, ite_not, Bool.and_eq_true, Bool.or_eq_true, Bool.not_eq_true', bfalse, Bool.not_eq_false', beq_iff_eq, decide_eq_true_eq, isEmpty_eq, ite_and_, ite_or_, ne_eq, toList_mk, List.toList_toArray])
 repeat' first
 | (with_reducible refine LeO.trans ((All.galoisref01_Compare.mono_l k) _ _ _) ?_; rw [All.galoisref01_Compare.j0]; (try simp only [if_true, if_false, decide_eq_true_eq, Bool.false_eq_true, decide_not, ite_not, bne, decide_int_eq, beq_iff_eq, Bool.not_eq_true', bfalse, toList_mk, List.toList_toArray, ite_and_, ite_or_, Bool.and_eq_true, Bool.or_eq_true, isEmpty_eq, wrap_mod, wrap_u8, All.integer_zero.f, bind_some_, Int.toNat_natCast, Int.reduceToNat, Int.zero_sub, BAe]))
 | (with_reducible exact LeO.none _)
 | (with_reducible exact LeO.refl _)
 | (with_reducible refine LeO.posR (by with_reducible assumption) ?_)
 | (with_reducible refine LeO.negR (by with_reducible assumption) ?_)
 | (with_reducible refine LeO.bindR (by with_reducible assumption) ?_)
 | (with_reducible refine LeO.posL (by with_reducible assumption) ?_)
 | (with_reducible refine LeO.negL (by with_reducible assumption) ?_)
 | (with_reducible refine LeO.iteL (fun _ => ?_) (fun _ => ?_))
 | (with_reducible refine LeO.bindK (by with_reducible assumption) ?_)
 | (with_reducible refine LeO.bindL (fun _ _ => ?_))
 | (refine LeO.posR (by first | decide | exact Int.le_refl _ | omega | assumption) ?_)
 | (refine LeO.negR (by first | decide | omega) ?_)
theorem ok39 (k : Nat) : FeOk Go.Proofs.Try.prog (fe39 (FX39 k)) :=
 fe_ok EOK HM (es := fun k => fes39) (fun k => List.forall_mem_nil _) (N := 27) (an := an39) (c := cd39) (f := 39) (fn := Go.Proofs.Try.f39) (rms := rm39) (ask := ask39) (rsk := rsk39) (enc := enc39) (dec := dec39) (tbl := []) (fun s => rfl) Go.Proofs.Try.func39 (by kernel_rfl) (by kernel_rfl) (by kernel_rfl) (fun k => les39)
  (List.forall_mem_nil _) (fun k s0 => .nil)
  (F := fun k s => FX39 k s.1.1 s.1.2.1) (fun k s r h => (e39 s).trans (b39 k s.1.1 s.1.2.1 r h)) k
end Go.Proofs.YtdhdfcjpeflinaaV
set_option linter.unusedVariables false
set_option linter.unusedSimpArgs false
set_option maxRecDepth 100000
namespace Go.Proofs.YtdhdfcjpeflinaaV
open Go Go.RowKit Go.Proofs.Ytdhdfcjpeflinaa Go.Proofs.YtdhdfcjpeflinaaE Go.Proofs.YtdhdfcjpeflinaaW.PrintWords Go.Proofs.YtdhdfcjpeflinaaW.PrintLast Go.Proofs.YtdhdfcjpeflinaaW.PrintMore
theorem b65 (k : Nat) (x0 : Bool) (x1 : ByteArray) : LeO (FX65 k x0 x1) (B65 x0 x1) := by
 show LeO (All.galoisref02_Make.f x0 x1) _
 unfold All.galoisref02_Make.f; unfold B65; (try simp only [All.integer_zero.f, All.exact_stepAt.f, All.S24.f0, All.S24.f1, All.rd_T24, All.z24]); exact BR
theorem ok65 (k : Nat) : FeOk Go.Proofs.Try.prog (fe65 (FX65 k)) :=
 fe_ok EOK HM (es := fun k => fes65) (fun k => List.forall_mem_nil _) (N := 12) (an := an65) (c := cd65) (f := 65) (fn := Go.Proofs.Try.f65) (rms := rm65) (ask := ask65) (rsk := rsk65) (enc := enc65) (dec := dec65) (tbl := []) (fun s => rfl) Go.Proofs.Try.func65 (by kernel_rfl) (by kernel_rfl) (by kernel_rfl) (fun k => les65)
  (List.forall_mem_nil _) (fun k s0 => .nil)
  (F := fun k s => FX65 k s.1.1 s.1.2.1) (fun k s r h => (e65 s).trans (b65 k s.1.1 s.1.2.1 r h)) k
@[reducible] noncomputable def GX83l0 (k : Nat) (x8 : Int) (x5 : (List Int)) (x6 : (List Int)) (x7 : (List Int)) : Option R83 := All.galoisref01_Mul.l0 k x5 x6 x7 x8
@[reducible] noncomputable def GX83l1 (k : Nat) (x8 : Int) (x9 : Int) (x10 : Int) (x5 : (List Int)) (x6 : (List Int)) (x7 : (List Int)) : Option R83 := All.galoisref01_Mul.l1 k x5 x6 x7 x8 x9 x10
theorem b83l0 (k : Nat) (x8 : Int) (x5 : (List Int)) (x6 : (List Int)) (x7 : (List Int)) : LeO (All.galoisref01_Mul.l0 (k + 1) x5 x6 x7 x8) (B83l0 (GX83l1 k) (FX105 k) x8 x5 x6 x7) := by rw [All.galoisref01_Mul.l0]; unfold B83l0; (try simp only [GX83l0, GX83l1, FX103, FX105, All.integer_zero.f, All.exact_stepAt.f, All.S24.f0, All.S24.f1, All.rd_T24, All.z24]); exact BR
theorem b83l1 (k : Nat) (x8 : Int) (x9 : Int) (x10 : Int) (x5 : (List Int)) (x6 : (List Int)) (x7 : (List Int)) : LeO (All.galoisref01_Mul.l1 (k + 1) x5 x6 x7 x8 x9 x10) (B83l1 (GX83l0 k) (GX83l1 k) x8 x9 x10 x5 x6 x7) := by rw [All.galoisref01_Mul.l1]; unfold B83l1; (try simp only [GX83l0, GX83l1, FX103, FX105, All.integer_zero.f, All.exact_stepAt.f, All.S24.f0, All.S24.f1, All.rd_T24, All.z24]); exact BR
theorem b83 (k : Nat) (x0 : ByteArray) (x1 : ByteArray) : LeO (FX83 k x0 x1) (B83 (GX83l0 k) (FX103 k) x0 x1) := by
 show LeO (All.galoisref01_Mul.f k x0 x1) _
 unfold All.galoisref01_Mul.f; unfold B83; (try simp only [GX83l0, GX83l1, FX103, FX105, All.integer_zero.f, All.exact_stepAt.f, All.S24.f0, All.S24.f1, All.rd_T24, All.z24]); exact BR
theorem ok83 (k : Nat) : FeOk Go.Proofs.Try.prog (fe83 (FX83 k)) :=
 fe_ok EOK HM (es := fun k => fes83 (FX103 k) (FX105 k)) (fun k => List.forall_mem_cons.2 ⟨ok103 k, List.forall_mem_cons.2 ⟨ok105 k, List.forall_mem_nil _⟩⟩) (N := 70) (an := an83) (c := cd83) (f := 83) (fn := Go.Proofs.Try.f83) (rms := rm83) (ask := ask83) (rsk := rsk83) (enc := enc83) (dec := dec83) (tbl := [p83.getD 0 ⟨0, [], .skip⟩, p83.getD 1 ⟨0, [], .skip⟩]) (fun s => rfl) Go.Proofs.Try.func83 (by kernel_rfl) (by kernel_rfl) (by kernel_rfl) (fun k => les83 (GX83l0 k) (GX83l1 k))
  (List.forall_mem_cons.2 ⟨fun s => rfl, List.forall_mem_cons.2 ⟨fun s => rfl, List.forall_mem_nil _⟩⟩) (fun k s0 => .cons (by kernel_rfl) (by kernel_rfl) (fun s r h => (e83l0 (GX83l0 k) (GX83l1 k) (FX103 k) (FX105 k) s0 s).trans (b83l0 k s.1.1 s.2.1 s.2.2.1 s.2.2.2.1 r h)) (.cons (by kernel_rfl) (by kernel_rfl) (fun s r h => (e83l1 (GX83l0 k) (GX83l1 k) (FX103 k) (FX105 k) s0 s).trans (b83l1 k s.1.1 s.1.2.1 s.1.2.2.1 s.2.1 s.2.2.1 s.2.2.2.1 r h)) (.nil)))
  (F := fun k s => FX83 k s.1.1 s.1.2.1) (fun k s r h => (e83 (GX83l0 k) (GX83l1 k) (FX103 k) (FX105 k) s).trans (b83 k s.1.1 s.1.2.1 r h)) k
theorem b77 (k : Nat) (x0 : (Bool × ByteArray)) : LeO (FX77 k x0) (B77 x0) := by exact LeO.refl _
theorem ok77 (k : Nat) : FeOk Go.Proofs.Try.prog (fe77 (FX77 k)) :=
 fe_ok EOK HM (es := fun k => fes77) (fun k => List.forall_mem_nil _) (N := 5) (an := an77) (c := cd77) (f := 77) (fn := Go.Proofs.Try.f77) (rms := rm77) (ask := ask77) (rsk := rsk77) (enc := enc77) (dec := dec77) (tbl := []) (fun s => rfl) Go.Proofs.Try.func77 (by kernel_rfl) (by kernel_rfl) (by kernel_rfl) (fun k => les77)
  (List.forall_mem_nil _) (fun k s0 => .nil)
  (F := fun k s => FX77 k s.1.1) (fun k s r h => (e77 s).trans (b77 k s.1.1 r h)) k
theorem b99Abs (k : Nat) (x0 : ((Bool × ByteArray) × Unit)) (x1 : (List (Bool × ByteArray))) : LeO (FX99Abs k x0 x1) (B99Abs (FX52 k) (FX53 k) (FX77 k) x0 x1) := by exact LeO.refl _
theorem ok99Abs (k : Nat) : FeOk Go.Proofs.Try.prog (fe99Abs (FX99Abs k)) :=
 fe_ok EOK HM (es := fun k => fes99Abs (FX52 k) (FX53 k) (FX77 k)) (fun k => List.forall_mem_cons.2 ⟨ok52 k, List.forall_mem_cons.2 ⟨ok53 k, List.forall_mem_cons.2 ⟨ok77 k, List.forall_mem_nil _⟩⟩⟩) (N := 21) (an := an99Abs) (c := cd99Abs) (f := 99) (fn := Go.Proofs.Try.f99) (rms := rm99Abs) (ask := ask99Abs) (rsk := rsk99Abs) (enc := enc99Abs) (dec := dec99Abs) (tbl := []) (fun s => rfl) Go.Proofs.Try.func99 (by kernel_rfl) (by kernel_rfl) (by kernel_rfl) (fun k => les99Abs)
  (List.forall_mem_nil _) (fun k s0 => .nil)
  (F := fun k s => FX99Abs k s.1.1 s.1.2.1) (fun k s r h => (e99Abs (FX52 k) (FX53 k) (FX77 k) s).trans (b99Abs k s.1.1 s.1.2.1 r h)) k
theorem b29 (k : Nat) (x0 : (Bool × ByteArray)) : LeO (FX29 k x0) (B29 (FX55 k) (FX99Abs k) x0) := by
 show LeO (All.integer_Abs.f k x0.1 x0.2) _
 unfold All.integer_Abs.f; unfold B29; (try simp only [FX55, FX99Abs, B55, B99Abs, B77, FX52, FX53, FX77, All.integer_zero.f, All.exact_stepAt.f, All.S24.f0, All.S24.f1, All.rd_T24, All.z24]); exact BR
theorem ok29 (k : Nat) : FeOk Go.Proofs.Try.prog (fe29 (FX29 k)) :=
 fe_ok EOK HM (es := fun k => fes29 (FX55 k) (FX99Abs k)) (fun k => List.forall_mem_cons.2 ⟨ok55 k, List.forall_mem_cons.2 ⟨ok99Abs k, List.forall_mem_nil _⟩⟩) (N := 11) (an := an29) (c := cd29) (f := 29) (fn := Go.Proofs.Try.f29) (rms := rm29) (ask := ask29) (rsk := rsk29) (enc := enc29) (dec := dec29) (tbl := []) (fun s => rfl) Go.Proofs.Try.func29 (by kernel_rfl) (by kernel_rfl) (by kernel_rfl) (fun k => les29)
  (List.forall_mem_nil _) (fun k s0 => .nil)
  (F := fun k s => FX29 k s.1.1) (fun k s r h => (e29 (FX55 k) (FX99Abs k) s).trans (b29 k s.1.1 r h)) k
theorem b84 (k : Nat) (x0 : (Bool × ByteArray)) : LeO (FX84 k x0) (B84 (FX98 k) x0) := by
 show LeO (All.exact_IntNeg.f x0.1 x0.2) _
 unfold All.exact_IntNeg.f; unfold B84; (try simp only [FX98, All.integer_zero.f, All.exact_stepAt.f, All.S24.f0, All.S24.f1, All.rd_T24, All.z24]); exact BR
theorem ok84 (k : Nat) : FeOk Go.Proofs.Try.prog (fe84 (FX84 k)) :=
 fe_ok EOK HM (es := fun k => fes84 (FX98 k)) (fun k => List.forall_mem_cons.2 ⟨ok98 k, List.forall_mem_nil _⟩) (N := 9) (an := an84) (c := cd84) (f := 84) (fn := Go.Proofs.Try.f84) (rms := rm84) (ask := ask84) (rsk := rsk84) (enc := enc84) (dec := dec84) (tbl := []) (fun s => rfl) Go.Proofs.Try.func84 (by kernel_rfl) (by kernel_rfl) (by kernel_rfl) (fun k => les84)
  (List.forall_mem_nil _) (fun k s0 => .nil)
  (F := fun k s => FX84 k s.1.1) (fun k s r h => (e84 (FX98 k) s).trans (b84 k s.1.1 r h)) k
theorem b45 (k : Nat) (x0 : (Bool × ByteArray)) : LeO (FX45 k x0) (B45 x0) := by
 show LeO (All.galoisref02_Sign.f x0.1 x0.2) _
 unfold All.galoisref02_Sign.f; unfold B45; (try simp only [All.integer_zero.f, All.exact_stepAt.f, All.S24.f0, All.S24.f1, All.rd_T24, All.z24]); exact BR
theorem ok45 (k : Nat) : FeOk Go.Proofs.Try.prog (fe45 (FX45 k)) :=
 fe_ok EOK HM (es := fun k => fes45) (fun k => List.forall_mem_nil _) (N := 10) (an := an45) (c := cd45) (f := 45) (fn := Go.Proofs.Try.f45) (rms := rm45) (ask := ask45) (rsk := rsk45) (enc := enc45) (dec := dec45) (tbl := []) (fun s => rfl) Go.Proofs.Try.func45 (by kernel_rfl) (by kernel_rfl) (by kernel_rfl) (fun k => les45)
  (List.forall_mem_nil _) (fun k s0 => .nil)
  (F := fun k s => FX45 k s.1.1) (fun k s r h => (e45 s).trans (b45 k s.1.1 r h)) k
theorem b46 (k : Nat) (x0 : (Bool × ByteArray)) : LeO (FX46 k x0) (B46 (FX65 k) x0) := by
 show LeO (All.galoisref02_Neg.f x0.1 x0.2) _
 unfold All.galoisref02_Neg.f; unfold B46; (try simp only [FX65, All.integer_zero.f, All.exact_stepAt.f, All.S24.f0, All.S24.f1, All.rd_T24, All.z24]); exact BR
theorem ok46 (k : Nat) : FeOk Go.Proofs.Try.prog (fe46 (FX46 k)) :=
 fe_ok EOK HM (es := fun k => fes46 (FX65 k)) (fun k => List.forall_mem_cons.2 ⟨ok65 k, List.forall_mem_nil _⟩) (N := 9) (an := an46) (c := cd46) (f := 46) (fn := Go.Proofs.Try.f46) (rms := rm46) (ask := ask46) (rsk := rsk46) (enc := enc46) (dec := dec46) (tbl := []) (fun s => rfl) Go.Proofs.Try.func46 (by kernel_rfl) (by kernel_rfl) (by kernel_rfl) (fun k => les46)
  (List.forall_mem_nil _) (fun k s0 => .nil)
  (F := fun k s => FX46 k s.1.1) (fun k s r h => (e46 (FX65 k) s).trans (b46 k s.1.1 r h)) k
end Go.Proofs.YtdhdfcjpeflinaaV
set_option linter.unusedVariables false
set_option linter.unusedSimpArgs false
set_option maxRecDepth 100000
namespace Go.Proofs.YtdhdfcjpeflinaaV
open Go Go.RowKit Go.Proofs.Ytdhdfcjpeflinaa Go.Proofs.YtdhdfcjpeflinaaE Go.Proofs.YtdhdfcjpeflinaaW.PrintWords Go.Proofs.YtdhdfcjpeflinaaW.PrintLast Go.Proofs.YtdhdfcjpeflinaaW.PrintMore
theorem b85 (k : Nat) (x0 : (Bool × ByteArray)) : LeO (FX85 k x0) (B85 (FX84 k) x0) := by exact LeO.refl _
theorem ok85 (k : Nat) : FeOk Go.Proofs.Try.prog (fe85 (FX85 k)) :=
 fe_ok EOK HM (es := fun k => fes85 (FX84 k)) (fun k => List.forall_mem_cons.2 ⟨ok84 k, List.forall_mem_nil _⟩) (N := 4) (an := an85) (c := cd85) (f := 85) (fn := Go.Proofs.Try.f85) (rms := rm85) (ask := ask85) (rsk := rsk85) (enc := enc85) (dec := dec85) (tbl := []) (fun s => rfl) Go.Proofs.Try.func85 (by kernel_rfl) (by kernel_rfl) (by kernel_rfl) (fun k => les85)
  (List.forall_mem_nil _) (fun k s0 => .nil)
  (F := fun k s => FX85 k s.1.1) (fun k s r h => (e85 (FX84 k) s).trans (b85 k s.1.1 r h)) k
theorem b99Neg (k : Nat) (x0 : ((Bool × ByteArray) × Unit)) (x1 : (List (Bool × ByteArray))) : LeO (FX99Neg k x0 x1) (B99Neg (FX52 k) (FX53 k) (FX85 k) x0 x1) := by exact LeO.refl _
theorem ok99Neg (k : Nat) : FeOk Go.Proofs.Try.prog (fe99Neg (FX99Neg k)) :=
 fe_ok EOK HM (es := fun k => fes99Neg (FX52 k) (FX53 k) (FX85 k)) (fun k => List.forall_mem_cons.2 ⟨ok52 k, List.forall_mem_cons.2 ⟨ok53 k, List.forall_mem_cons.2 ⟨ok85 k, List.forall_mem_nil _⟩⟩⟩) (N := 21) (an := an99Neg) (c := cd99Neg) (f := 99) (fn := Go.Proofs.Try.f99) (rms := rm99Neg) (ask := ask99Neg) (rsk := rsk99Neg) (enc := enc99Neg) (dec := dec99Neg) (tbl := []) (fun s => rfl) Go.Proofs.Try.func99 (by kernel_rfl) (by kernel_rfl) (by kernel_rfl) (fun k => les99Neg)
  (List.forall_mem_nil _) (fun k s0 => .nil)
  (F := fun k s => FX99Neg k s.1.1 s.1.2.1) (fun k s r h => (e99Neg (FX52 k) (FX53 k) (FX85 k) s).trans (b99Neg k s.1.1 s.1.2.1 r h)) k
theorem b40 (k : Nat) (x0 : (Bool × ByteArray)) : LeO (FX40 k x0) (B40 (FX55 k) (FX99Neg k) x0) := by
 show LeO (All.integer_Neg.f k x0.1 x0.2) _
 unfold All.integer_Neg.f; unfold B40; (try simp only [FX55, FX99Neg, B55, B99Neg, B85, FX52, FX53, FX84, FX85, All.integer_zero.f, All.exact_stepAt.f, All.S24.f0, All.S24.f1, All.rd_T24, All.z24]); exact BR
theorem ok40 (k : Nat) : FeOk Go.Proofs.Try.prog (fe40 (FX40 k)) :=
 fe_ok EOK HM (es := fun k => fes40 (FX55 k) (FX99Neg k)) (fun k => List.forall_mem_cons.2 ⟨ok55 k, List.forall_mem_cons.2 ⟨ok99Neg k, List.forall_mem_nil _⟩⟩) (N := 11) (an := an40) (c := cd40) (f := 40) (fn := Go.Proofs.Try.f40) (rms := rm40) (ask := ask40) (rsk := rsk40) (enc := enc40) (dec := dec40) (tbl := []) (fun s => rfl) Go.Proofs.Try.func40 (by kernel_rfl) (by kernel_rfl) (by kernel_rfl) (fun k => les40)
  (List.forall_mem_nil _) (fun k s0 => .nil)
  (F := fun k s => FX40 k s.1.1) (fun k s r h => (e40 (FX55 k) (FX99Neg k) s).trans (b40 k s.1.1 r h)) k
theorem b86 (k : Nat) (x0 : (Bool × ByteArray)) : LeO (FX86 k x0) (B86 x0) := by
 show LeO (All.exact_IntSign.f x0.1 x0.2) _
 unfold All.exact_IntSign.f; unfold B86; (try simp only [All.integer_zero.f, All.exact_stepAt.f, All.S24.f0, All.S24.f1, All.rd_T24, All.z24]); exact BR
theorem ok86 (k : Nat) : FeOk Go.Proofs.Try.prog (fe86 (FX86 k)) :=
 fe_ok EOK HM (es := fun k => fes86) (fun k => List.forall_mem_nil _) (N := 9) (an := an86) (c := cd86) (f := 86) (fn := Go.Proofs.Try.f86) (rms := rm86) (ask := ask86) (rsk := rsk86) (enc := enc86) (dec := dec86) (tbl := []) (fun s => rfl) Go.Proofs.Try.func86 (by kernel_rfl) (by kernel_rfl) (by kernel_rfl) (fun k => les86)
  (List.forall_mem_nil _) (fun k s0 => .nil)
  (F := fun k s => FX86 k s.1.1) (fun k s r h => (e86 s).trans (b86 k s.1.1 r h)) k
theorem b41 (k : Nat) (x0 : (Bool × ByteArray)) : LeO (FX41 k x0) (B41 (FX33 k) (FX86 k) x0) := by
 show LeO (All.integer_Sign.f k x0.1 x0.2) _
 unfold All.integer_Sign.f; unfold B41; (try simp only [FX33, FX86, All.integer_zero.f, All.exact_stepAt.f, All.S24.f0, All.S24.f1, All.rd_T24, All.z24]); exact BR
theorem ok41 (k : Nat) : FeOk Go.Proofs.Try.prog (fe41 (FX41 k)) :=
 fe_ok EOK HM (es := fun k => fes41 (FX33 k) (FX86 k)) (fun k => List.forall_mem_cons.2 ⟨ok33 k, List.forall_mem_cons.2 ⟨ok86 k, List.forall_mem_nil _⟩⟩) (N := 12) (an := an41) (c := cd41) (f := 41) (fn := Go.Proofs.Try.f41) (rms := rm41) (ask := ask41) (rsk := rsk41) (enc := enc41) (dec := dec41) (tbl := []) (fun s => rfl) Go.Proofs.Try.func41 (by kernel_rfl) (by kernel_rfl) (by kernel_rfl) (fun k => les41)
  (List.forall_mem_nil _) (fun k s0 => .nil)
  (F := fun k s => FX41 k s.1.1) (fun k s r h => (e41 (FX33 k) (FX86 k) s).trans (b41 k s.1.1 r h)) k
theorem b111 (k : Nat) (x0 : ByteArray) : LeO (FX111 k x0) (B111 (FX119 k) x0) := by
 show LeO (All.exact_NatUint.f k x0) _
 unfold All.exact_NatUint.f; unfold B111; (try simp only [FX119, All.integer_zero.f, All.exact_stepAt.f, All.S24.f0, All.S24.f1, All.rd_T24, All.z24]); exact BR
theorem ok111 (k : Nat) : FeOk Go.Proofs.Try.prog (fe111 (FX111 k)) :=
 fe_ok EOK HM (es := fun k => fes111 (FX119 k)) (fun k => List.forall_mem_cons.2 ⟨ok119 k, List.forall_mem_nil _⟩) (N := 16) (an := an111) (c := cd111) (f := 111) (fn := Go.Proofs.Try.f111) (rms := rm111) (ask := ask111) (rsk := rsk111) (enc := enc111) (dec := dec111) (tbl := []) (fun s => rfl) Go.Proofs.Try.func111 (by kernel_rfl) (by kernel_rfl) (by kernel_rfl) (fun k => les111)
  (List.forall_mem_nil _) (fun k s0 => .nil)
  (F := fun k s => FX111 k s.1.1) (fun k s r h => (e111 (FX119 k) s).trans (b111 k s.1.1 r h)) k
theorem b87 (k : Nat) (x0 : (Bool × ByteArray)) : LeO (FX87 k x0) (B87 (FX111 k) x0) := by
 show LeO (All.exact_IntTo.f k x0.1 x0.2) _
 unfold All.exact_IntTo.f
 unfold B87
 (try simp only [FX111, All.integer_zero.f, All.exact_stepAt.f, All.S24.f0, All.S24.f1, All.rd_T24, All.z24])
 (try simp only [List.take_append_drop, List.drop_length, List.append_nil, Int.zero_sub, Int.toNat_natCast, Int.reduceToNat, Int.zero_add, List.take_zero, List.nil_append, List.append_assoc, List.length_set, ite_bind_, List.take_left, BAe, bne, decide_int_eq, decide_not, wrap_mod, if_true, if_false, Bool.false_eq_true, bind_assoc_, slice_def, List.drop_zero, List.take_length, wrap_u8, bind_some_, cnd_eq_if, rdOf, ite_not, Bool.and_eq_true, Bool.or_eq_true, Bool.not_eq_true', bfalse, Bool.not_eq_false', beq_iff_eq, decide_eq_true_eq, isEmpty_eq, ite_and_, ite_or_, ne_eq, toList_mk, List.toList_toArray])
 repeat' first
 | (with_reducible refine LeO.trans ((All.exact_IntTo.mono_l k) _ _ _ _) ?_; rw [All.exact_IntTo.j0]; (try simp only [if_true, if_false, decide_eq_true_eq, Bool.false_eq_true, decide_not, ite_not, bne, decide_int_eq, beq_iff_eq, Bool.not_eq_true', bfalse, toList_mk, List.toList_toArray, ite_and_, ite_or_, Bool.and_eq_true, Bool.or_eq_true, isEmpty_eq, wrap_mod, wrap_u8, All.integer_zero.f, bind_some_, Int.toNat_natCast, Int.reduceToNat, Int.zero_sub, BAe]))
 | (with_reducible exact LeO.none _)
 | (with_reducible exact LeO.refl _)
 | (with_reducible refine LeO.posR (by with_reducible assumption) ?_)
 | (with_reducible refine LeO.negR (by with_reducible assumption) ?_)
 | (with_reducible refine LeO.bindR (by with_reducible assumption) ?_)
 | (with_reducible refine LeO.posL (by with_reducible assumption) ?_)
 | (with_reducible refine LeO.negL (by with_reducible assumption) ?_)
 | (with_reducible refine LeO.iteL (fun _ => ?_) (fun _ => ?_))
 | (with_reducible refine LeO.bindK (by with_reducible assumption) ?_)
 | (with_reducible refine LeO.bindL (fun _ _ => ?_))
 | (refine LeO.posR (by first | decide | exact Int.le_refl _ | omega | assumption) ?_)
 | (refine LeO.negR (by first | decide | omega) ?_)
theorem ok87 (k : Nat) : FeOk Go.Proofs.Try.prog (fe87 (FX87 k)) :=
 fe_ok EOK HM (es := fun k => fes87 (FX111 k)) (fun k => List.forall_mem_cons.2 ⟨ok111 k, List.forall_mem_nil _⟩) (N := 36) (an := an87) (c := cd87) (f := 87) (fn := Go.Proofs.Try.f87) (rms := rm87) (ask := ask87) (rsk := rsk87) (enc := enc87) (dec := dec87) (tbl := []) (fun s => rfl) Go.Proofs.Try.func87 (by kernel_rfl) (by kernel_rfl) (by kernel_rfl) (fun k => les87)
  (List.forall_mem_nil _) (fun k s0 => .nil)
  (F := fun k s => FX87 k s.1.1) (fun k s r h => (e87 (FX111 k) s).trans (b87 k s.1.1 r h)) k
theorem b42 (k : Nat) (x0 : (Bool × ByteArray)) : LeO (FX42 k x0) (B42 (FX33 k) (FX87 k) x0) := by
 show LeO (All.integer_ToInt.f k x0.1 x0.2) _
 unfold All.integer_ToInt.f; unfold B42; (try simp only [FX33, FX87, All.integer_zero.f, All.exact_stepAt.f, All.S24.f0, All.S24.f1, All.rd_T24, All.z24]); exact BR
theorem ok42 (k : Nat) : FeOk Go.Proofs.Try.prog (fe42 (FX42 k)) :=
 fe_ok EOK HM (es := fun k => fes42 (FX33 k) (FX87 k)) (fun k => List.forall_mem_cons.2 ⟨ok33 k, List.forall_mem_cons.2 ⟨ok87 k, List.forall_mem_nil _⟩⟩) (N := 20) (an := an42) (c := cd42) (f := 42) (fn := Go.Proofs.Try.f42) (rms := rm42) (ask := ask42) (rsk := rsk42) (enc := enc42) (dec := dec42) (tbl := []) (fun s => rfl) Go.Proofs.Try.func42 (by kernel_rfl) (by kernel_rfl) (by kernel_rfl) (fun k => les42)
  (List.forall_mem_nil _) (fun k s0 => .nil)
  (F := fun k s => FX42 k s.1.1) (fun k s r h => (e42 (FX33 k) (FX87 k) s).trans (b42 k s.1.1 r h)) k
theorem b125 (k : Nat) (x0 : Int) : LeO (FX125 k x0) (B125 x0) := by
 show LeO (All.galoisref01_TwoTo.f x0) _
 unfold All.galoisref01_TwoTo.f; unfold B125; (try simp only [All.integer_zero.f, All.exact_stepAt.f, All.S24.f0, All.S24.f1, All.rd_T24, All.z24]); exact BR
theorem ok125 (k : Nat) : FeOk Go.Proofs.Try.prog (fe125 (FX125 k)) :=
 fe_ok EOK HM (es := fun k => fes125) (fun k => List.forall_mem_nil _) (N := 15) (an := an125) (c := cd125) (f := 125) (fn := Go.Proofs.Try.f125) (rms := rm125) (ask := ask125) (rsk := rsk125) (enc := enc125) (dec := dec125) (tbl := []) (fun s => rfl) Go.Proofs.Try.func125 (by kernel_rfl) (by kernel_rfl) (by kernel_rfl) (fun k => les125)
  (List.forall_mem_nil _) (fun k s0 => .nil)
  (F := fun k s => FX125 k s.1.1) (fun k s r h => (e125 s).trans (b125 k s.1.1 r h)) k
@[reducible] noncomputable def GX126l0 (k : Nat) (x3 : Int) (x4 : Int) : Option R126 := All.galoisref01_Bits.l0 k x3 x4
theorem b126l0 (k : Nat) (x3 : Int) (x4 : Int) : LeO (All.galoisref01_Bits.l0 (k + 1) x3 x4) (B126l0 (GX126l0 k) x3 x4) := by rw [All.galoisref01_Bits.l0]; unfold B126l0; (try simp only [GX126l0, All.integer_zero.f, All.exact_stepAt.f, All.S24.f0, All.S24.f1, All.rd_T24, All.z24]); exact BR
theorem b126 (k : Nat) (x0 : ByteArray) : LeO (FX126 k x0) (B126 (GX126l0 k) x0) := by
 show LeO (All.galoisref01_Bits.f k x0) _
 unfold All.galoisref01_Bits.f; unfold B126; (try simp only [GX126l0, All.integer_zero.f, All.exact_stepAt.f, All.S24.f0, All.S24.f1, All.rd_T24, All.z24]); exact BR
theorem ok126 (k : Nat) : FeOk Go.Proofs.Try.prog (fe126 (FX126 k)) :=
 fe_ok EOK HM (es := fun k => fes126) (fun k => List.forall_mem_nil _) (N := 20) (an := an126) (c := cd126) (f := 126) (fn := Go.Proofs.Try.f126) (rms := rm126) (ask := ask126) (rsk := rsk126) (enc := enc126) (dec := dec126) (tbl := [p126.getD 0 ⟨0, [], .skip⟩]) (fun s => rfl) Go.Proofs.Try.func126 (by kernel_rfl) (by kernel_rfl) (by kernel_rfl) (fun k => les126 (GX126l0 k))
  (List.forall_mem_cons.2 ⟨fun s => rfl, List.forall_mem_nil _⟩) (fun k s0 => .cons (by kernel_rfl) (by kernel_rfl) (fun s r h => (e126l0 (GX126l0 k) s0 s).trans (b126l0 k s.1.1 s.1.2.1 r h)) (.nil))
  (F := fun k s => FX126 k s.1.1) (fun k s r h => (e126 (GX126l0 k) s).trans (b126 k s.1.1 r h)) k
@[reducible] noncomputable def GX127l0 (k : Nat) (x0 : ByteArray) (x1 : Int) (x5 : ByteArray) : Option R127 := All.galoisref01_Pow.l0 k x0 x1 x5
theorem b127l0 (k : Nat) (x0 : ByteArray) (x1 : Int) (x5 : ByteArray) : LeO (All.galoisref01_Pow.l0 (k + 1) x0 x1 x5) (B127l0 (GX127l0 k) (FX83 k) x0 x1 x5) := by rw [All.galoisref01_Pow.l0]; unfold B127l0; (try simp only [GX127l0, FX63, FX83, All.integer_zero.f, All.exact_stepAt.f, All.S24.f0, All.S24.f1, All.rd_T24, All.z24]); exact BR
theorem b127 (k : Nat) (x0 : ByteArray) (x1 : Int) : LeO (FX127 k x0 x1) (B127 (GX127l0 k) (FX63 k) x0 x1) := by
 show LeO (All.galoisref01_Pow.f k x0 x1) _
 unfold All.galoisref01_Pow.f; unfold B127; (try simp only [GX127l0, FX63, FX83, All.integer_zero.f, All.exact_stepAt.f, All.S24.f0, All.S24.f1, All.rd_T24, All.z24]); exact BR
theorem ok127 (k : Nat) : FeOk Go.Proofs.Try.prog (fe127 (FX127 k)) :=
 fe_ok EOK HM (es := fun k => fes127 (FX63 k) (FX83 k)) (fun k => List.forall_mem_cons.2 ⟨ok63 k, List.forall_mem_cons.2 ⟨ok83 k, List.forall_mem_nil _⟩⟩) (N := 21) (an := an127) (c := cd127) (f := 127) (fn := Go.Proofs.Try.f127) (rms := rm127) (ask := ask127) (rsk := rsk127) (enc := enc127) (dec := dec127) (tbl := [p127.getD 0 ⟨0, [], .skip⟩]) (fun s => rfl) Go.Proofs.Try.func127 (by kernel_rfl) (by kernel_rfl) (by kernel_rfl) (fun k => les127 (GX127l0 k))
  (List.forall_mem_cons.2 ⟨fun s => rfl, List.forall_mem_nil _⟩) (fun k s0 => .cons (by kernel_rfl) (by kernel_rfl) (fun s r h => (e127l0 (GX127l0 k) (FX63 k) (FX83 k) s0 s).trans (b127l0 k s.1.1 s.1.2.1 s.1.2.2.1 r h)) (.nil))
  (F := fun k s => FX127 k s.1.1 s.1.2.1) (fun k s r h => (e127 (GX127l0 k) (FX63 k) (FX83 k) s).trans (b127 k s.1.1 s.1.2.1 r h)) k
@[reducible] noncomputable def GX112l0 (k : Nat) (x0 : ByteArray) (x1 : Int) (x5 : ByteArray) : Option R112 := All.galoisref01_Root.l0 k x0 x1 x5
theorem b112l0 (k : Nat) (x0 : ByteArray) (x1 : Int) (x5 : ByteArray) : LeO (All.galoisref01_Root.l0 (k + 1) x0 x1 x5) (B112l0 (GX112l0 k) (FX39 k) (FX60 k) (FX61 k) (FX62 k) (FX83 k) (FX127 k) x0 x1 x5) := by rw [All.galoisref01_Root.l0]; unfold B112l0; (try simp only [GX112l0, FX39, FX60, FX61, FX62, FX83, FX125, FX126, FX127, All.integer_zero.f, All.exact_stepAt.f, All.S24.f0, All.S24.f1, All.rd_T24, All.z24]); exact BR
theorem b112 (k : Nat) (x0 : ByteArray) (x1 : Int) : LeO (FX112 k x0 x1) (B112 (GX112l0 k) (FX125 k) (FX126 k) x0 x1) := by
 show LeO (All.galoisref01_Root.f k x0 x1) _
 unfold All.galoisref01_Root.f; unfold B112; (try simp only [GX112l0, FX39, FX60, FX61, FX62, FX83, FX125, FX126, FX127, All.integer_zero.f, All.exact_stepAt.f, All.S24.f0, All.S24.f1, All.rd_T24, All.z24]); exact BR
theorem ok112 (k : Nat) : FeOk Go.Proofs.Try.prog (fe112 (FX112 k)) :=
 fe_ok EOK HM (es := fun k => fes112 (FX39 k) (FX60 k) (FX61 k) (FX62 k) (FX83 k) (FX125 k) (FX126 k) (FX127 k)) (fun k => List.forall_mem_cons.2 ⟨ok39 k, List.forall_mem_cons.2 ⟨ok60 k, List.forall_mem_cons.2 ⟨ok61 k, List.forall_mem_cons.2 ⟨ok62 k, List.forall_mem_cons.2 ⟨ok83 k, List.forall_mem_cons.2 ⟨ok125 k, List.forall_mem_cons.2 ⟨ok126 k, List.forall_mem_cons.2 ⟨ok127 k, List.forall_mem_nil _⟩⟩⟩⟩⟩⟩⟩⟩) (N := 48) (an := an112) (c := cd112) (f := 112) (fn := Go.Proofs.Try.f112) (rms := rm112) (ask := ask112) (rsk := rsk112) (enc := enc112) (dec := dec112) (tbl := [p112.getD 0 ⟨0, [], .skip⟩]) (fun s => rfl) Go.Proofs.Try.func112 (by kernel_rfl) (by kernel_rfl) (by kernel_rfl) (fun k => les112 (GX112l0 k))
  (List.forall_mem_cons.2 ⟨fun s => rfl, List.forall_mem_nil _⟩) (fun k s0 => .cons (by kernel_rfl) (by kernel_rfl) (fun s r h => (e112l0 (GX112l0 k) (FX39 k) (FX60 k) (FX61 k) (FX62 k) (FX83 k) (FX125 k) (FX126 k) (FX127 k) s0 s).trans (b112l0 k s.1.1 s.1.2.1 s.1.2.2.1 r h)) (.nil))
  (F := fun k s => FX112 k s.1.1 s.1.2.1) (fun k s r h => (e112 (GX112l0 k) (FX39 k) (FX60 k) (FX61 k) (FX62 k) (FX83 k) (FX125 k) (FX126 k) (FX127 k) s).trans (b112 k s.1.1 s.1.2.1 r h)) k
theorem b88 (k : Nat) (x0 : ByteArray) : LeO (FX88 k x0) (B88 (FX112 k) x0) := by
 show LeO (All.galoisref01_Sqrt.f k x0) _
 unfold All.galoisref01_Sqrt.f; unfold B88; (try simp only [FX112, All.integer_zero.f, All.exact_stepAt.f, All.S24.f0, All.S24.f1, All.rd_T24, All.z24]); exact BR
theorem ok88 (k : Nat) : FeOk Go.Proofs.Try.prog (fe88 (FX88 k)) :=
 fe_ok EOK HM (es := fun k => fes88 (FX112 k)) (fun k => List.forall_mem_cons.2 ⟨ok112 k, List.forall_mem_nil _⟩) (N := 5) (an := an88) (c := cd88) (f := 88) (fn := Go.Proofs.Try.f88) (rms := rm88) (ask := ask88) (rsk := rsk88) (enc := enc88) (dec := dec88) (tbl := []) (fun s => rfl) Go.Proofs.Try.func88 (by kernel_rfl) (by kernel_rfl) (by kernel_rfl) (fun k => les88)
  (List.forall_mem_nil _) (fun k s0 => .nil)
  (F := fun k s => FX88 k s.1.1) (fun k s r h => (e88 (FX112 k) s).trans (b88 k s.1.1 r h)) k
theorem b43 (k : Nat) (x0 : (Bool × ByteArray)) : LeO (FX43 k x0) (B43 (FX83 k) (FX88 k) x0) := by
 show LeO (All.galoisref02_IsSquare.f k x0.1 x0.2) _
 unfold All.galoisref02_IsSquare.f; unfold B43; (try simp only [FX83, FX88, All.integer_zero.f, All.exact_stepAt.f, All.S24.f0, All.S24.f1, All.rd_T24, All.z24]); exact BR
theorem ok43 (k : Nat) : FeOk Go.Proofs.Try.prog (fe43 (FX43 k)) :=
 fe_ok EOK HM (es := fun k => fes43 (FX83 k) (FX88 k)) (fun k => List.forall_mem_cons.2 ⟨ok83 k, List.forall_mem_cons.2 ⟨ok88 k, List.forall_mem_nil _⟩⟩) (N := 21) (an := an43) (c := cd43) (f := 43) (fn := Go.Proofs.Try.f43) (rms := rm43) (ask := ask43) (rsk := rsk43) (enc := enc43) (dec := dec43) (tbl := []) (fun s => rfl) Go.Proofs.Try.func43 (by kernel_rfl) (by kernel_rfl) (by kernel_rfl) (fun k => les43)
  (List.forall_mem_nil _) (fun k s0 => .nil)
  (F := fun k s => FX43 k s.1.1) (fun k s r h => (e43 (FX83 k) (FX88 k) s).trans (b43 k s.1.1 r h)) k
@[reducible] noncomputable def GX89l0 (k : Nat) (x0 : ByteArray) (x4 : Int) (x5 : Int) : Option R89 := All.galoisref01_Uint.l0 k x0 x4 x5
theorem b89l0 (k : Nat) (x0 : ByteArray) (x4 : Int) (x5 : Int) : LeO (All.galoisref01_Uint.l0 (k + 1) x0 x4 x5) (B89l0 (GX89l0 k) x0 x4 x5) := by rw [All.galoisref01_Uint.l0]; unfold B89l0; (try simp only [GX89l0, All.integer_zero.f, All.exact_stepAt.f, All.S24.f0, All.S24.f1, All.rd_T24, All.z24]); exact BR
theorem b89 (k : Nat) (x0 : ByteArray) : LeO (FX89 k x0) (B89 (GX89l0 k) x0) := by
 show LeO (All.galoisref01_Uint.f k x0) _
 unfold All.galoisref01_Uint.f; unfold B89; (try simp only [GX89l0, All.integer_zero.f, All.exact_stepAt.f, All.S24.f0, All.S24.f1, All.rd_T24, All.z24]); exact BR
theorem ok89 (k : Nat) : FeOk Go.Proofs.Try.prog (fe89 (FX89 k)) :=
 fe_ok EOK HM (es := fun k => fes89) (fun k => List.forall_mem_nil _) (N := 23) (an := an89) (c := cd89) (f := 89) (fn := Go.Proofs.Try.f89) (rms := rm89) (ask := ask89) (rsk := rsk89) (enc := enc89) (dec := dec89) (tbl := [p89.getD 0 ⟨0, [], .skip⟩]) (fun s => rfl) Go.Proofs.Try.func89 (by kernel_rfl) (by kernel_rfl) (by kernel_rfl) (fun k => les89 (GX89l0 k))
  (List.forall_mem_cons.2 ⟨fun s => rfl, List.forall_mem_nil _⟩) (fun k s0 => .cons (by kernel_rfl) (by kernel_rfl) (fun s r h => (e89l0 (GX89l0 k) s0 s).trans (b89l0 k s.1.1 s.1.2.1 s.1.2.2.1 r h)) (.nil))
  (F := fun k s => FX89 k s.1.1) (fun k s r h => (e89 (GX89l0 k) s).trans (b89 k s.1.1 r h)) k
theorem b44 (k : Nat) (x0 : (Bool × ByteArray)) : LeO (FX44 k x0) (B44 (FX89 k) x0) := by
 show LeO (All.galoisref02_ToInt.f k x0.1 x0.2) _
 unfold All.galoisref02_ToInt.f
 unfold B44
 (try simp only [FX89, All.integer_zero.f, All.exact_stepAt.f, All.S24.f0, All.S24.f1, All.rd_T24, All.z24])
 (try simp only [List.take_append_drop, List.drop_length, List.append_nil, Int.zero_sub, Int.toNat_natCast, Int.reduceToNat, Int.zero_add, List.take_zero, List.nil_append, List.append_assoc, List.length_set, ite_bind_, List.take_left, BAe, bne, decide_int_eq, decide_not, wrap_mod, if_true, if_false, Bool.false_eq_true, bind_assoc_, slice_def, List.drop_zero, List.take_length, wrap_u8, bind_some_, cnd_eq_if, rdOf, ite_not, Bool.and_eq_true, Bool.or_eq_true, Bool.not_eq_true', bfalse, Bool.not_eq_false', beq_iff_eq, decide_eq_true_eq, isEmpty_eq, ite_and_, ite_or_, ne_eq, toList_mk, List.toList_toArray])
 repeat' first
 | (with_reducible refine LeO.trans ((All.galoisref02_ToInt.mono_l k) _ _ _ _) ?_; rw [All.galoisref02_ToInt.j0]; (try simp only [if_true, if_false, decide_eq_true_eq, Bool.false_eq_true, decide_not, ite_not, bne, decide_int_eq, beq_iff_eq, Bool.not_eq_true', bfalse, toList_mk, List.toList_toArray, ite_and_, ite_or_, Bool.and_eq_true, Bool.or_eq_true, isEmpty_eq, wrap_mod, wrap_u8, All.integer_zero.f, bind_some_, Int.toNat_natCast, Int.reduceToNat, Int.zero_sub, BAe]))
 | (with_reducible exact LeO.none _)
 | (with_reducible exact LeO.refl _)
 | (with_reducible refine LeO.posR (by with_reducible assumption) ?_)
 | (with_reducible refine LeO.negR (by with_reducible assumption) ?_)
 | (with_reducible refine LeO.bindR (by with_reducible assumption) ?_)
 | (with_reducible refine LeO.posL (by with_reducible assumption) ?_)
 | (with_reducible refine LeO.negL (by with_reducible assumption) ?_)
 | (with_reducible refine LeO.iteL (fun _ => ?_) (fun _ => ?_))
 | (with_reducible refine LeO.bindK (by with_reducible assumption) ?_)
 | (with_reducible refine LeO.bindL (fun _ _ => ?_))
 | (refine LeO.posR (by first | decide | exact Int.le_refl _ | omega | assumption) ?_)
 | (refine LeO.negR (by first | decide | omega) ?_)
theorem ok44 (k : Nat) : FeOk Go.Proofs.Try.prog (fe44 (FX44 k)) :=
 fe_ok EOK HM (es := fun k => fes44 (FX89 k)) (fun k => List.forall_mem_cons.2 ⟨ok89 k, List.forall_mem_nil _⟩) (N := 36) (an := an44) (c := cd44) (f := 44) (fn := Go.Proofs.Try.f44) (rms := rm44) (ask := ask44) (rsk := rsk44) (enc := enc44) (dec := dec44) (tbl := []) (fun s => rfl) Go.Proofs.Try.func44 (by kernel_rfl) (by kernel_rfl) (by kernel_rfl) (fun k => les44)
  (List.forall_mem_nil _) (fun k s0 => .nil)
  (F := fun k s => FX44 k s.1.1) (fun k s r h => (e44 (FX89 k) s).trans (b44 k s.1.1 r h)) k
theorem b47 (k : Nat) (x0 : (Bool × ByteArray)) : LeO (FX47 k x0) (B47 x0) := by
 show LeO (All.galoisref02_Abs.f x0.1 x0.2) _
 unfold All.galoisref02_Abs.f; unfold B47; (try simp only [All.integer_zero.f, All.exact_stepAt.f, All.S24.f0, All.S24.f1, All.rd_T24, All.z24]); exact BR
theorem ok47 (k : Nat) : FeOk Go.Proofs.Try.prog (fe47 (FX47 k)) :=
 fe_ok EOK HM (es := fun k => fes47) (fun k => List.forall_mem_nil _) (N := 6) (an := an47) (c := cd47) (f := 47) (fn := Go.Proofs.Try.f47) (rms := rm47) (ask := ask47) (rsk := rsk47) (enc := enc47) (dec := dec47) (tbl := []) (fun s => rfl) Go.Proofs.Try.func47 (by kernel_rfl) (by kernel_rfl) (by kernel_rfl) (fun k => les47)
  (List.forall_mem_nil _) (fun k s0 => .nil)
  (F := fun k s => FX47 k s.1.1) (fun k s r h => (e47 s).trans (b47 k s.1.1 r h)) k
end Go.Proofs.YtdhdfcjpeflinaaV
set_option linter.unusedVariables false
set_option linter.unusedSimpArgs false
set_option maxRecDepth 100000
namespace Go.Proofs.YtdhdfcjpeflinaaV
open Go Go.RowKit Go.Proofs.Ytdhdfcjpeflinaa Go.Proofs.YtdhdfcjpeflinaaE Go.Proofs.YtdhdfcjpeflinaaW.PrintWords Go.Proofs.YtdhdfcjpeflinaaW.PrintLast Go.Proofs.YtdhdfcjpeflinaaW.PrintMore
end Go.Proofs.YtdhdfcjpeflinaaV
set_option linter.unusedVariables false
namespace Go.Proofs.YtdhdfcjpeflinaaE
open Go.RowKit
theorem calls_of_ct {P : Program} {f : Nat} {fn : Func} {c : Code} (hf : P.funcs[f]? = some fn) (hname : (fn.name == "runtime.NumGoroutine") = false) (hb : fn.body = some c) {asx : List V} {r : V} {us : Bl} (h : Ct P f asx [] r us) {vs : List Value}
  (hv : ∀ w bl φ, RepVs w bl φ asx vs) (hr : ∀ w bl φ v, RepV w bl φ r v → v = .bool true) (w : World) : Calls P f vs.toArray w fun e w' => e = .returned (.bool true) ∧ Below w.heap.size w w' := by
 have hm : Mem w (lentBo [] (fun _ => ⟨0, 0, some 0⟩)) (fun _ => .fresh) (fun _ => ⟨0, 0, some 0⟩) w :=
  ⟨fun n => trivial, (fun n m h => by obtain ⟨_, _, _, e⟩ := h; cases e), (fun n t l tl _ h => by cases h), Frame'.refl _ _⟩
 rcases h.2 w (fun _ => .fresh) (fun _ => ⟨0, 0, some 0⟩) vs (fun n _ => rfl) hm (hv _ _ _) with ⟨_, h1⟩ | ⟨v, w', h1, _⟩
 ·refine h1.mono fun e w' => ?_
  rintro ⟨v, rfl, φ', st, rv⟩
  have fr := st.mem.fr
  refine ⟨by rw [hr _ _ _ _ rv], fr.os, fr.tape, fr.output, fr.size, fun b hb => fr.block b hb fun o h => ?_⟩
  obtain ⟨n, t, l, tl, _, e, _⟩ := h
  cases e
 ·exfalso
  have e : (callFunc f vs.toArray).run P w = .ok (.enter f vs.toArray) w := by simp only [callFunc, Sem.run_bind, run_program, Result.andThen_ok, hf, hname, hb, Option.isNone_some, Bool.false_eq_true, if_false, Sem.run_pure]
  rw [e] at h1; cases h1
theorem below_frame {w w' : World} (h : Below w.heap.size w w') : Frame' w w' (fun _ _ => False) := by
 have hb : ∀ b, b < w.heap.size → w'.heap[b]? = w.heap[b]? := h.block
 have hc : ∀ b o, b < w.heap.size → w'.cell? ⟨b, o, none⟩ = w.cell? ⟨b, o, none⟩ := fun b o hl => by unfold World.cell?; rw [hb b hl]
 exact ⟨h.os, h.tape, h.output, h.size, fun b hl _ => hb b hl, fun b o hl _ => hc b o hl, fun b o hs => by
  have hl : b < w.heap.size := by
   obtain ⟨v, hv⟩ := Option.isSome_iff_exists.1 hs
   exact cell_lt hv
  rw [hc b o hl]; exact hs, fun b o hl => by unfold World.frozen?; rw [hb b hl]⟩
theorem S_below {w0 w w' : World} {Bo : Nat → Nat → Prop} {bl : Nat → Blk} {φ : Nat → Addr} (m : Mem w0 Bo bl φ w) (h : Below w.heap.size w w') : Step w0 Bo bl φ w bl φ w' :=
 S_gen m (fun _ => False) (fun _ _ => ⟨rfl, rfl⟩) (fun _ h => h.elim) ((below_frame h).ext (fun _ _ _ h => h.elim) fun _ _ h => h) (fun n _ hl hs o v hv => ((below_frame h).cell _ _ (cell_lt hv) id).trans hv) (fun _ h => h.elim) (fun _ _ h => h.elim) (fun _ _ _ _ h => h.elim) (m.fr.trans (below_frame h) fun _ _ _ h => h.elim)
section
variable {w : World} {bl : Nat → Blk} {φ : Nat → Addr}
theorem rep_int {k : IntKind} {x : Int} : RepV w bl φ (.a (.v (.it k) x)) (.int k x) := ⟨[.int k x], rfl, rfl⟩
theorem rep_bs {x : Bool} {y : ByteArray} : RepV w bl φ (.a (.v (.ag (.pr .bo .st)) (x, y))) (.agg #[.bool x, .string y]) := ⟨[.bool x, .string y], ⟨[.bool x], [.string y], rfl, rfl, rfl⟩, rfl⟩
theorem rep_true {v : Value} (h : RepV w bl φ (.a (.v .bo true)) v) : v = .bool true := by
 obtain ⟨cs, h1, h2⟩ := h
 have h1 : cs = [.bool true] := h1
 subst h1
 have h2 : [Value.bool true] = [v] := h2
 cases h2; rfl
end
end Go.Proofs.YtdhdfcjpeflinaaE
namespace Go.Proofs.YtdhdfcjpeflinaaN
open Go Go.RowKit Go.Proofs.Ytdhdfcjpeflinaa.All Go.Proofs.YtdhdfcjpeflinaaW.PrintWords Go.Proofs.YtdhdfcjpeflinaaW.PrintLast Go.Proofs.YtdhdfcjpeflinaaW.PrintMore
theorem awake_at : galoislaw02_awake.f 70 = some true := by kernel_rfl
theorem awake_ev : Ev (fun k => galoislaw02_awake.f k) true := Ev.of (fun k => galoislaw02_awake.mono k) awake_at
end Go.Proofs.YtdhdfcjpeflinaaN
set_option linter.unusedVariables false
set_option linter.unusedSimpArgs false
set_option maxRecDepth 100000
namespace Go.Proofs.YtdhdfcjpeflinaaV
open Go Go.RowKit Go.Proofs.Ytdhdfcjpeflinaa Go.Proofs.YtdhdfcjpeflinaaE Go.Proofs.YtdhdfcjpeflinaaW.PrintWords Go.Proofs.YtdhdfcjpeflinaaW.PrintLast Go.Proofs.YtdhdfcjpeflinaaW.PrintMore
@[reducible] noncomputable def FX9 (k : Nat) (x0 : (Bool × ByteArray)) (x1 : Int) : Option R9 := B9 (FX12 k) (FX17 k) (FX19 k) (FX27 k) (FX28 k) (FX29 k) (FX30 k) (FX40 k) (FX41 k) (FX42 k) (FX43 k) (FX44 k) (FX45 k) (FX46 k) (FX47 k) x0 x1
theorem b9 (k : Nat) (x0 : (Bool × ByteArray)) (x1 : Int) : LeO (FX9 k x0 x1) (B9 (FX12 k) (FX17 k) (FX19 k) (FX27 k) (FX28 k) (FX29 k) (FX30 k) (FX40 k) (FX41 k) (FX42 k) (FX43 k) (FX44 k) (FX45 k) (FX46 k) (FX47 k) x0 x1) := by exact LeO.refl _
theorem ok9 (k : Nat) : FeOk Go.Proofs.Try.prog (fe9 (FX9 k)) :=
 fe_ok EOK HM (es := fun k => fes9 (FX12 k) (FX17 k) (FX19 k) (FX27 k) (FX28 k) (FX29 k) (FX30 k) (FX40 k) (FX41 k) (FX42 k) (FX43 k) (FX44 k) (FX45 k) (FX46 k) (FX47 k)) (fun k => List.forall_mem_cons.2 ⟨ok12 k, List.forall_mem_cons.2 ⟨ok17 k, List.forall_mem_cons.2 ⟨ok19 k, List.forall_mem_cons.2 ⟨ok27 k, List.forall_mem_cons.2 ⟨ok28 k, List.forall_mem_cons.2 ⟨ok29 k, List.forall_mem_cons.2 ⟨ok30 k, List.forall_mem_cons.2 ⟨ok40 k, List.forall_mem_cons.2 ⟨ok41 k, List.forall_mem_cons.2 ⟨ok42 k, List.forall_mem_cons.2 ⟨ok43 k, List.forall_mem_cons.2 ⟨ok44 k, List.forall_mem_cons.2 ⟨ok45 k, List.forall_mem_cons.2 ⟨ok46 k, List.forall_mem_cons.2 ⟨ok47 k, List.forall_mem_nil _⟩⟩⟩⟩⟩⟩⟩⟩⟩⟩⟩⟩⟩⟩⟩) (N := 179) (an := an9) (c := cd9) (f := 9) (fn := Go.Proofs.Try.f9) (rms := rm9) (ask := ask9) (rsk := rsk9) (enc := enc9) (dec := dec9) (tbl := []) (fun s => rfl) Go.Proofs.Try.func9 (by kernel_rfl) (by kernel_rfl) (by kernel_rfl) (fun k => les9)
  (List.forall_mem_nil _) (fun k s0 => .nil)
  (F := fun k s => FX9 k s.1.1 s.1.2.1) (fun k s r h => (e9 (FX12 k) (FX17 k) (FX19 k) (FX27 k) (FX28 k) (FX29 k) (FX30 k) (FX40 k) (FX41 k) (FX42 k) (FX43 k) (FX44 k) (FX45 k) (FX46 k) (FX47 k) s).trans (b9 k s.1.1 s.1.2.1 r h)) k
theorem calls9 (a0 : Bool) (a1 : ByteArray) (p : Int) (h : ∃ k, FX9 k (a0, a1) p = some true) (w : World) :
  Calls Go.Proofs.Try.prog 9 #[.agg #[.bool a0, .string a1], .int .i64 p] w fun e w' => e = .returned (.bool true) ∧ Below w.heap.size w w' := by
 obtain ⟨k, hk⟩ := h
 have hc := ok9 k (((a0, a1), (p, ())), ()) true hk (.a (.v .bo true)) rfl
 exact calls_of_ct (vs := [.agg #[.bool a0, .string a1], .int .i64 p]) Go.Proofs.Try.func9 (by kernel_rfl) (c := cd9) (by kernel_rfl) hc (fun w bl φ => .cons rep_bs (.cons rep_int (.nil))) (fun w bl φ v h => rep_true h) w
end Go.Proofs.YtdhdfcjpeflinaaV
set_option linter.unusedVariables false
namespace Go.Proofs.YtdhdfcjpeflinaaN
open Go.Proofs.YtdhdfcjpeflinaaW.PrintWords
def vB (B : Int) : List Int → Int
 | [] => 0
 | x :: xs => x + B * vB B xs
def Dig (B : Int) (l : List Int) : Prop := ∀ x, x ∈ l → 0 ≤ x ∧ x < B
def Trim (l : List Int) : Prop := 0 < l.length → rd l (l.length - 1 : Nat) ≠ 0
theorem vB_cons (B x : Int) (xs : List Int) : vB B (x :: xs) = x + B * vB B xs := rfl
theorem Dig_nil (B : Int) : Dig B [] := fun _ h => absurd h (List.not_mem_nil)
theorem Dig_cons {B x : Int} {xs : List Int} : Dig B (x :: xs) ↔ (0 ≤ x ∧ x < B) ∧ Dig B xs := by
 constructor
 ·intro h
  exact ⟨h x (List.mem_cons_self), fun y hy => h y (List.mem_cons_of_mem _ hy)⟩
 ·rintro ⟨h1, h2⟩ y hy
  rcases List.mem_cons.1 hy with rfl | hy
  ·exact h1
  ·exact h2 y hy
theorem Dig_append {B : Int} {xs ys : List Int} (hx : Dig B xs) (hy : Dig B ys) : Dig B (xs ++ ys) := by
 intro z hz
 rcases List.mem_append.1 hz with h | h
 ·exact hx z h
 ·exact hy z h
theorem Dig_take {B : Int} {xs : List Int} (h : Dig B xs) (n : Nat) : Dig B (xs.take n) := fun z hz => h z (List.mem_of_mem_take hz)
theorem Dig_drop {B : Int} {xs : List Int} (h : Dig B xs) (n : Nat) : Dig B (xs.drop n) := fun z hz => h z (List.mem_of_mem_drop hz)
theorem Dig_set {B : Int} {xs : List Int} (h : Dig B xs) (n : Nat) {v : Int} (h0 : 0 ≤ v) (h1 : v < B) : Dig B (xs.set n v) := by
 intro z hz
 rcases List.mem_or_eq_of_mem_set hz with hz | rfl
 ·exact h z hz
 ·exact ⟨h0, h1⟩
theorem Dig_replicate {B : Int} (hB : 0 < B) (n : Nat) : Dig B (List.replicate n 0) := by
 intro z hz
 rw [List.eq_of_mem_replicate hz]
 exact ⟨Int.le_refl _, hB⟩
theorem Dig_reverse {B : Int} {xs : List Int} (h : Dig B xs) : Dig B xs.reverse := fun z hz => h z (List.mem_reverse.1 hz)
theorem rd_nat (xs : List Int) (n : Nat) : rd xs (n : Int) = xs.getD n 0 := by simp [rd]
theorem rd_get (xs : List Int) (n : Nat) (h : n < xs.length) : rd xs (n : Int) = xs[n] := by
 rw [rd_nat, List.getD_eq_getElem?_getD, List.getElem?_eq_getElem h]
 rfl
theorem Dig_rd {B : Int} {xs : List Int} (h : Dig B xs) (n : Nat) (hn : n < xs.length) : 0 ≤ rd xs (n : Int) ∧ rd xs (n : Int) < B := by
 rw [rd_get xs n hn]
 exact h _ (List.getElem_mem hn)
theorem Dig_rd0 {B : Int} (hB : 0 < B) {xs : List Int} (h : Dig B xs) (n : Nat) : 0 ≤ rd xs (n : Int) ∧ rd xs (n : Int) < B := by
 rcases Nat.lt_or_ge n xs.length with hn | hn
 ·exact Dig_rd h n hn
 ·rw [rd_nat, List.getD_eq_getElem?_getD, List.getElem?_eq_none hn]
  exact ⟨Int.le_refl _, hB⟩
theorem vB_append (B : Int) (xs ys : List Int) : vB B (xs ++ ys) = vB B xs + B ^ xs.length * vB B ys := by
 induction xs with
 | nil => simp [vB]
 | cons x xs ih =>
  rw [List.cons_append, vB_cons, ih, vB_cons, List.length_cons, Int.pow_succ, Int.mul_add, ← Int.add_assoc, ← Int.mul_assoc, Int.mul_comm B (B ^ xs.length)]
theorem vB_replicate (B : Int) (n : Nat) : vB B (List.replicate n 0) = 0 := by
 induction n with
 | zero => rfl
 | succ n ih => rw [List.replicate_succ, vB_cons, ih]; simp
theorem vB_nonneg {B : Int} (hB : 0 ≤ B) {l : List Int} (h : Dig B l) : 0 ≤ vB B l := by
 induction l with
 | nil => exact Int.le_refl _
 | cons x xs ih =>
  have := Dig_cons.1 h
  rw [vB_cons]
  exact Int.add_nonneg this.1.1 (Int.mul_nonneg hB (ih this.2))
theorem vB_lt {B : Int} (hB : 0 < B) {l : List Int} (h : Dig B l) : vB B l < B ^ l.length := by
 induction l with
 | nil => simp [vB]
 | cons x xs ih =>
  have hd := Dig_cons.1 h
  have h1 := ih hd.2
  rw [vB_cons, List.length_cons, Int.pow_succ, Int.mul_comm (B ^ xs.length) B]
  have h2 : B * (vB B xs + 1) ≤ B * B ^ xs.length := Int.mul_le_mul_of_nonneg_left (by omega) (by omega)
  rw [Int.mul_add, Int.mul_one] at h2
  omega
theorem vB_split (B : Int) (l : List Int) (n : Nat) (h : n ≤ l.length) : vB B l = vB B (l.take n) + B ^ n * vB B (l.drop n) := by
 conv => lhs; rw [← List.take_append_drop n l]
 rw [vB_append, List.length_take, Nat.min_eq_left h]
theorem vB_take_succ (B : Int) (l : List Int) (n : Nat) (h : n < l.length) : vB B (l.take (n + 1)) = vB B (l.take n) + B ^ n * rd l (n : Int) := by
 rw [List.take_succ_eq_append_getElem h, vB_append, List.length_take, Nat.min_eq_left (by omega), rd_get l n h]
 simp [vB]
theorem vB_set (B : Int) (l : List Int) (n : Nat) (v : Int) (h : n < l.length) : vB B (l.set n v) = vB B l + B ^ n * (v - rd l (n : Int)) := by
 induction l generalizing n with
 | nil => simp at h
 | cons x xs ih =>
  cases n with
  | zero => simp [vB, rd]; omega
  | succ n =>
   have h' : n < xs.length := by simpa using h
   rw [List.set_cons_succ, vB_cons, ih n h', vB_cons]
   have : rd (x :: xs) ((n + 1 : Nat) : Int) = rd xs (n : Int) := by rw [rd_nat, rd_nat]; simp
   rw [this, Int.pow_succ, Int.mul_add, ← Int.add_assoc, ← Int.mul_assoc, Int.mul_comm B (B ^ n)]
theorem rd_set_self (l : List Int) (n : Nat) (v : Int) (h : n < l.length) : rd (l.set n v) (n : Int) = v := by
 rw [rd_get _ n (by simpa using h), List.getElem_set_self]
theorem rd_set_ne (l : List Int) (n m : Nat) (v : Int) (h : n ≠ m) : rd (l.set n v) (m : Int) = rd l (m : Int) := by
 rw [rd_nat, rd_nat, List.getD_eq_getElem?_getD, List.getD_eq_getElem?_getD, List.getElem?_set_ne h]
theorem rd_take (xs : List Int) (n m : Nat) (h : m < n) : rd (xs.take n) (m : Int) = rd xs (m : Int) := by
 rw [rd_nat, rd_nat, List.getD_eq_getElem?_getD, List.getD_eq_getElem?_getD, List.getElem?_take_of_lt h]
theorem rd_drop (xs : List Int) (n m : Nat) : rd (xs.drop n) (m : Int) = rd xs ((n + m : Nat) : Int) := by
 rw [rd_nat, rd_nat, List.getD_eq_getElem?_getD, List.getD_eq_getElem?_getD, List.getElem?_drop]
theorem rd_replicate (n m : Nat) : rd (List.replicate n 0) (m : Int) = 0 := by
 rw [rd_nat, List.getD_eq_getElem?_getD, List.getElem?_replicate]
 split <;> rfl
theorem dig_inj {B : Int} (hB : 0 < B) : ∀ {l m : List Int}, Dig B l → Dig B m → l.length = m.length → vB B l = vB B m → l = m
 | [], [], _, _, _, _ => rfl
 | [], y :: ys, _, _, h, _ => by simp at h
 | x :: xs, [], _, _, h, _ => by simp at h
 | x :: xs, y :: ys, hl, hm, h, hv => by
  have h1 := Dig_cons.1 hl
  have h2 := Dig_cons.1 hm
  rw [vB_cons, vB_cons] at hv
  have hx : x = y := by
   have e1 : (x + B * vB B xs) % B = x := by rw [Int.add_mul_emod_self_left, Int.emod_eq_of_lt h1.1.1 h1.1.2]
   have e2 : (y + B * vB B ys) % B = y := by rw [Int.add_mul_emod_self_left, Int.emod_eq_of_lt h2.1.1 h2.1.2]
   rw [← e1, ← e2, hv]
  subst hx
  have hv' : B * vB B xs = B * vB B ys := by omega
  have := Int.eq_of_mul_eq_mul_left (by omega) hv'
  rw [dig_inj hB h1.2 h2.2 (by simpa using h) this]
theorem trim_le {B : Int} (hB : 0 < B) {l : List Int} (h : Dig B l) (ht : Trim l) (hp : 0 < l.length) : B ^ (l.length - 1) ≤ vB B l := by
 have e : l.take (l.length - 1 + 1) = l := List.take_of_length_le (by omega)
 have h1 := vB_take_succ B l (l.length - 1) (by omega)
 rw [e] at h1
 rw [h1]
 have h2 := vB_nonneg (Int.le_of_lt hB) (Dig_take h (l.length - 1))
 have h3 := (Dig_rd h (l.length - 1) (by omega)).1
 have h4 : 1 ≤ rd l ((l.length - 1 : Nat) : Int) := by have := ht hp; omega
 have h5 : B ^ (l.length - 1) * 1 ≤ B ^ (l.length - 1) * rd l ((l.length - 1 : Nat) : Int) := Int.mul_le_mul_of_nonneg_left h4 (Int.le_of_lt (Int.pow_pos hB))
 rw [Int.mul_one] at h5
 omega
theorem pow_le_pow {B : Int} (hB : 0 < B) {m n : Nat} (h : m ≤ n) : B ^ m ≤ B ^ n := by
 obtain ⟨j, rfl⟩ : ∃ j, n = m + j := ⟨n - m, by omega⟩
 rw [Int.pow_add]
 have h1 : 1 ≤ B ^ j := by have : 0 < B ^ j := Int.pow_pos hB; omega
 have h2 : B ^ m * 1 ≤ B ^ m * B ^ j := Int.mul_le_mul_of_nonneg_left h1 (Int.le_of_lt (Int.pow_pos hB))
 rwa [Int.mul_one] at h2
theorem trim_len {B : Int} (hB : 0 < B) {l m : List Int} (hl : Dig B l) (hm : Dig B m) (ht : Trim m) (h : l.length < m.length) : vB B l < vB B m := by
 have h1 := vB_lt hB hl
 have h2 := trim_le hB hm ht (by omega)
 have h3 := pow_le_pow hB (show l.length ≤ m.length - 1 by omega)
 omega
theorem trim_inj {B : Int} (hB : 0 < B) {l m : List Int} (hl : Dig B l) (hm : Dig B m) (tl : Trim l) (tm : Trim m) (hv : vB B l = vB B m) : l = m := by
 rcases Nat.lt_trichotomy l.length m.length with h | h | h
 ·have := trim_len hB hl hm tm h; omega
 ·exact dig_inj hB hl hm h hv
 ·have := trim_len hB hm hl tl h; omega
def dgs (b : Nat) (n : Nat) : List Int :=
 if h : n = 0 then [] else ((n % (b + 2) : Nat) : Int) :: dgs b (n / (b + 2))
termination_by n
decreasing_by exact Nat.div_lt_self (by omega) (by omega)
theorem dgs_zero (b : Nat) : dgs b 0 = [] := by rw [dgs]; simp
theorem dgs_pos (b n : Nat) (h : n ≠ 0) : dgs b n = ((n % (b + 2) : Nat) : Int) :: dgs b (n / (b + 2)) := by rw [dgs]; simp [h]
theorem dgs_spec (b : Nat) : ∀ n, Dig (b + 2 : Nat) (dgs b n) ∧ Trim (dgs b n) ∧ vB (b + 2 : Nat) (dgs b n) = n := by
 intro n
 induction n using Nat.strongRecOn with
 | _ n ih =>
  by_cases h : n = 0
  ·subst h
   rw [dgs_zero]
   exact ⟨Dig_nil _, fun h => absurd h (by simp), rfl⟩
  ·obtain ⟨h1, h2, h3⟩ := ih (n / (b + 2)) (Nat.div_lt_self (by omega) (by omega))
   rw [dgs_pos b n h]
   have hm := Nat.mod_lt n (show 0 < b + 2 by omega)
   have hd := Nat.div_add_mod n (b + 2)
   refine ⟨Dig_cons.2 ⟨⟨by omega, by omega⟩, h1⟩, ?_, ?_⟩
   ·intro _
    by_cases hz : n / (b + 2) = 0
    ·rw [hz, dgs_zero]
     show rd [((n % (b + 2) : Nat) : Int)] ((0 : Nat) : Int) ≠ 0
     rw [hz] at hd
     have : ((n % (b + 2) : Nat) : Int) ≠ 0 := by omega
     simpa [rd] using this
    ·have hl : 0 < (dgs b (n / (b + 2))).length := by rw [dgs_pos _ _ hz]; simp
     have := h2 hl
     rw [List.length_cons, Nat.add_sub_cancel]
     obtain ⟨q, hq⟩ : ∃ q, (dgs b (n / (b + 2))).length = q + 1 := ⟨(dgs b (n / (b + 2))).length - 1, by omega⟩
     rw [hq] at this ⊢
     rw [rd_nat] at this ⊢
     simpa using this
   ·rw [vB_cons, h3]
    have : ((b + 2 : Nat) : Int) * ((n / (b + 2) : Nat) : Int) + ((n % (b + 2) : Nat) : Int) = n := by exact_mod_cast hd
    omega
theorem dgs_unique {b : Nat} {l : List Int} {n : Nat} (hl : Dig (b + 2 : Nat) l) (ht : Trim l) (hv : vB (b + 2 : Nat) l = n) : l = dgs b n := by
 obtain ⟨h1, h2, h3⟩ := dgs_spec b n
 exact trim_inj (by omega) hl h1 ht h2 (by rw [hv, h3])
theorem dgs_len {b n k : Nat} (h : n < (b + 2) ^ k) : (dgs b n).length ≤ k := by
 obtain ⟨h1, h2, h3⟩ := dgs_spec b n
 rcases Nat.lt_or_ge k (dgs b n).length with hk | hk
 ·have h4 := trim_le (by omega) h1 h2 (by omega)
  rw [h3] at h4
  have h5 := pow_le_pow (B := ((b + 2 : Nat) : Int)) (by omega) (show k ≤ (dgs b n).length - 1 by omega)
  have h6 : ((n : Nat) : Int) < ((b + 2 : Nat) : Int) ^ k := by exact_mod_cast h
  omega
 ·exact hk
theorem dgs_lt (b n : Nat) : n < (b + 2) ^ (dgs b n).length := by
 obtain ⟨h1, h2, h3⟩ := dgs_spec b n
 have := vB_lt (by omega) h1
 rw [h3] at this
 exact_mod_cast this
end Go.Proofs.YtdhdfcjpeflinaaN
set_option linter.unusedVariables false
namespace Go.Proofs.YtdhdfcjpeflinaaN
open Go.RowKit Go.Proofs.Ytdhdfcjpeflinaa.All Go.Proofs.YtdhdfcjpeflinaaW.PrintWords Go.Proofs.YtdhdfcjpeflinaaW.PrintLast Go.Proofs.YtdhdfcjpeflinaaW.PrintMore
theorem w64 {x : Int} (h0 : -9223372036854775808 ≤ x) (h1 : x < 9223372036854775808) : wrap64 x = x := by unfold wrap64; omega
theorem u64 {x : Int} (h0 : 0 ≤ x) (h1 : x < 18446744073709551616) : IntKind.u64.wrap x = x := by
 simp [IntKind.wrap, IntKind.bits, IntKind.signed]
 omega
theorem u64_mod (x : Int) : IntKind.u64.wrap x = x % 18446744073709551616 := by simp [IntKind.wrap, IntKind.bits, IntKind.signed]
abbrev B64 : Int := 18446744073709551616
def d64 (n : Nat) : List Int := dgs 18446744073709551614 n
theorem d64_dig (n : Nat) : Dig B64 (d64 n) := (dgs_spec 18446744073709551614 n).1
theorem d64_val (n : Nat) : vB B64 (d64 n) = n := (dgs_spec 18446744073709551614 n).2.2
theorem d64_unique {l : List Int} {n : Nat} (hl : Dig B64 l) (ht : Trim l) (hv : vB B64 l = n) : l = d64 n := dgs_unique hl ht hv
theorem d64_zero : d64 0 = [] := dgs_zero _
def d8 (n : Nat) : List Int := dgs 254 n
theorem d8_dig (n : Nat) : Dig 256 (d8 n) := (dgs_spec 254 n).1
theorem d8_trim (n : Nat) : Trim (d8 n) := (dgs_spec 254 n).2.1
theorem d8_val (n : Nat) : vB 256 (d8 n) = n := (dgs_spec 254 n).2.2
theorem d8_unique {l : List Int} {n : Nat} (hl : Dig 256 l) (ht : Trim l) (hv : vB 256 l = n) : l = d8 n := dgs_unique hl ht hv
def nat (n : Nat) : ByteArray := strOfNums (d8 n).reverse
theorem bytesOf_str {l : List Int} (h : Dig 256 l) : bytesOf (strOfNums l) = l := by
 unfold bytesOf
 rw [strOfNums_data, List.map_map]
 conv => rhs; rw [← List.map_id l]
 refine List.map_congr_left fun x hx => ?_
 have := h x hx
 simp [UInt8.toNat_ofNat']
 omega
theorem str_bytesOf (s : ByteArray) : strOfNums (bytesOf s) = s := by
 unfold strOfNums bytesOf
 rw [List.map_map]
 have : List.map ((fun n : Int => UInt8.ofNat n.toNat) ∘ fun b : UInt8 => (b.toNat : Int)) s.data.toList = s.data.toList := by
  conv => rhs; rw [← List.map_id s.data.toList]
  refine List.map_congr_left fun x _ => ?_
  simp
 rw [this]
theorem bytesOf_dig (s : ByteArray) : Dig 256 (bytesOf s) := by
 intro x hx
 unfold bytesOf at hx
 obtain ⟨b, _, rfl⟩ := List.mem_map.1 hx
 have := b.toNat_lt
 omega
theorem str_ext {s t : ByteArray} (h : bytesOf s = bytesOf t) : s = t := by rw [← str_bytesOf s, h, str_bytesOf]
theorem toList_ext {s t : ByteArray} : s.toList = t.toList ↔ s = t := by
 constructor
 ·intro h
  rw [ByteArray.toList_eq, ByteArray.toList_eq] at h
  cases s
  cases t
  congr
  exact Array.toList_inj.1 h
 ·rintro rfl; rfl
theorem toList_nil {s : ByteArray} : s.toList = [] ↔ s.size = 0 := by
 rw [ByteArray.toList_eq, ← List.length_eq_zero_iff, data_length]
theorem nat_bytes (n : Nat) : bytesOf (nat n) = (d8 n).reverse := bytesOf_str (Dig_reverse (d8_dig n))
theorem nat_size (n : Nat) : (nat n).size = (d8 n).length := by rw [← bytesOf_length, nat_bytes, List.length_reverse]
def bval (s : ByteArray) : Int := vB 256 (bytesOf s).reverse
theorem bval_nat (n : Nat) : bval (nat n) = n := by unfold bval; rw [nat_bytes, List.reverse_reverse, d8_val]
theorem bval_nonneg (s : ByteArray) : 0 ≤ bval s := vB_nonneg (by decide) (Dig_reverse (bytesOf_dig s))
theorem nat_inj {m n : Nat} : nat m = nat n ↔ m = n := by
 constructor
 ·intro h
  have := bval_nat m
  rw [h, bval_nat] at this
  omega
 ·rintro rfl; rfl
theorem rd_reverse (l : List Int) (n : Nat) (h : n < l.length) : rd l.reverse (n : Int) = rd l ((l.length - 1 - n : Nat) : Int) := by
 rw [rd_get _ n (by simpa using h), rd_get _ _ (by omega), List.getElem_reverse]
theorem bt_rd (s : ByteArray) (i : Int) : bt s i = rd (bytesOf s) i := (rd_bytesOf s i).symm
theorem wf_nat {s : ByteArray} (h : s.size = 0 ∨ bt s 0 ≠ 0) : s = nat (bval s).toNat := by
 apply str_ext
 rw [nat_bytes]
 have ht : Trim (bytesOf s).reverse := by
  intro hp
  rw [List.length_reverse] at hp ⊢
  rw [rd_reverse _ _ (by omega), bt_rd] at *
  rw [bytesOf_length] at hp
  have e : (bytesOf s).length - 1 - ((bytesOf s).length - 1) = 0 := by omega
  rw [e]
  rcases h with h | h
  ·omega
  ·exact h
 have := d8_unique (n := (bval s).toNat) (Dig_reverse (bytesOf_dig s)) ht (by have := bval_nonneg s; unfold bval at this ⊢; omega)
 rw [← this, List.reverse_reverse]
theorem nat_wf (n : Nat) : (nat n).size = 0 ∨ bt (nat n) 0 ≠ 0 := by
 rcases Nat.eq_zero_or_pos (d8 n).length with h | h
 ·left; rw [nat_size, h]
 ·right
  rw [bt_rd, nat_bytes]
  have := d8_trim n h
  have e := rd_reverse (d8 n) 0 (by omega)
  rw [show (d8 n).length - 1 - 0 = (d8 n).length - 1 by omega] at e
  rw [← e] at this
  exact this
theorem nat_zero : nat 0 = ⟨#[]⟩ := by unfold nat d8; rw [dgs_zero]; rfl
theorem nat_size_zero {n : Nat} : (nat n).size = 0 ↔ n = 0 := by
 constructor
 ·intro h
  rw [nat_size] at h
  have := d8_val n
  rw [List.eq_nil_of_length_eq_zero h] at this
  simp [vB] at this
  omega
 ·rintro rfl; rw [nat_zero]; rfl
theorem nat_size_le {n k : Nat} : (nat n).size ≤ k ↔ n < 256 ^ k := by
 rw [nat_size]
 constructor
 ·intro h
  exact Nat.lt_of_lt_of_le (dgs_lt 254 n) (Nat.pow_le_pow_right (by decide) h)
 ·intro h
  exact dgs_len h
theorem nat_lt_size (n : Nat) : n < 256 ^ (nat n).size := nat_size_le.1 (Nat.le_refl _)
theorem vB_zero (B : Int) : ∀ {l : List Int}, (∀ j : Nat, j < l.length → rd l (j : Int) = 0) → vB B l = 0
 | [], _ => rfl
 | x :: xs, h => by
  have h0 : x = 0 := h 0 (by simp)
  have := vB_zero B (l := xs) (fun j hj => by
   have := h (j + 1) (by simpa using hj)
   rw [rd_nat] at this ⊢
   simpa using this)
  rw [vB_cons, h0, this]
  simp
theorem vB_low (B : Int) {l : List Int} {n : Nat} (hn : n ≤ l.length) (h : ∀ j : Nat, n ≤ j → j < l.length → rd l (j : Int) = 0) : vB B l = vB B (l.take n) := by
 rw [vB_split B l n hn, vB_zero B (l := l.drop n) (fun j hj => by rw [rd_drop]; exact h _ (by omega) (by simp at hj; omega))]
 simp
theorem trim_l0 (l : List Int) (hd : Dig B64 l) (hl : l.length < 9223372036854775808) : ∀ n : Nat, n ≤ l.length → (∀ j : Nat, n ≤ j → j < l.length → rd l (j : Int) = 0) → Ev (fun k => exact_trim.l0 k l (n : Int)) (d64 (vB B64 l).toNat) := by
 have hv := vB_nonneg (by decide) hd
 intro n
 induction n with
 | zero =>
  intro hn h
  refine Ev.step (f := fun _ => some (d64 (vB B64 l).toNat)) (fun k => ?_) (Ev.now _)
  simp only [exact_trim.l0]
  rw [if_neg (by omega), if_pos (by omega), if_pos (by omega)]
  have := vB_low B64 hn h
  rw [this]
  simp [vB, d64_zero]
 | succ n ih =>
  intro hn h
  have e1 : wrap64 (((n + 1 : Nat) : Int) - 1) = (n : Int) := by rw [w64 (by omega) (by omega)]; omega
  by_cases hz : rd l (n : Int) = 0
  ·refine Ev.step (f := fun k => exact_trim.l0 k l (n : Int)) (fun k => ?_) (ih (by omega) (fun j hj hjl => ?_))
   ·simp only [exact_trim.l0, e1]
    rw [if_pos (by omega), if_pos (by omega), if_pos (by omega), if_pos hz]
   ·rcases Nat.lt_or_ge n j with hlt | hge
    ·exact h j hlt hjl
    ·have : j = n := by omega
     subst this
     exact hz
  ·refine Ev.step (f := fun _ => some (d64 (vB B64 l).toNat)) (fun k => ?_) (Ev.now _)
   simp only [exact_trim.l0, e1]
   rw [if_pos (by omega), if_pos (by omega), if_pos (by omega), if_neg hz, if_pos (by omega), if_pos (by omega)]
   congr 1
   have hlen : (l.take (n + 1)).length = n + 1 := by rw [List.length_take]; omega
   refine d64_unique (Dig_take hd _) (fun _ => ?_) ?_
   ·rw [Int.toNat_natCast, hlen, Nat.add_sub_cancel, rd_take l _ _ (by omega)]
    exact hz
   ·rw [Int.toNat_natCast, ← vB_low B64 hn h]
    omega
theorem trim_ev {l : List Int} (hd : Dig B64 l) (hl : l.length < 9223372036854775808) : Ev (fun k => exact_trim.f k l) (d64 (vB B64 l).toNat) :=
 trim_l0 l hd hl l.length (Nat.le_refl _) (fun j h1 h2 => absurd h1 (by omega))
end Go.Proofs.YtdhdfcjpeflinaaN
set_option linter.unusedVariables false
namespace Go.Proofs.YtdhdfcjpeflinaaN
open Go.RowKit Go.Proofs.Ytdhdfcjpeflinaa.All Go.Proofs.YtdhdfcjpeflinaaW.PrintWords Go.Proofs.YtdhdfcjpeflinaaW.PrintLast Go.Proofs.YtdhdfcjpeflinaaW.PrintMore
theorem wraps_u64 (n : Int) (h0 : 0 ≤ n) (h1 : n < 2 ^ 64) : IntKind.u64.wrap n = n := u64 h0 (by simpa using h1)
theorem pow8 (q r : Nat) : (B64 : Int) ^ q * 256 ^ r = 256 ^ (8 * q + r) := by
 have e : (256 : Int) ^ 8 = B64 := rfl
 rw [Int.pow_add, Int.pow_mul, e]
theorem high_succ (s : ByteArray) (i : Nat) (h : i < s.size) : vB 256 ((bytesOf s).take (i + 1)).reverse = bt s i + 256 * vB 256 ((bytesOf s).take i).reverse := by
 rw [List.take_succ_eq_append_getElem (by rw [bytesOf_length]; exact h), List.reverse_append, bt_rd, rd_get _ i (by rw [bytesOf_length]; exact h)]
 rfl
theorem high_all (s : ByteArray) : vB 256 ((bytesOf s).take s.size).reverse = bval s := by
 rw [List.take_of_length_le (by rw [bytesOf_length]; exact Nat.le_refl _)]
 rfl
theorem word_or (x c : Int) (r : Nat) (hr : r < 8) (hx0 : 0 ≤ x) (hx1 : x < B64) (hm : x % 256 ^ (r + 1) = 0) (hc0 : 0 ≤ c) (hc1 : c ≤ 255) :
  Go.bits .or .u64 x (shl .u64 (IntKind.u64.wrap c) (8 * r : Nat)) = x + c * 256 ^ r ∧ 0 ≤ x + c * 256 ^ r ∧ x + c * 256 ^ r < B64 ∧ (x + c * 256 ^ r) % 256 ^ r = 0 := by
 have h64 : (B64 : Int) = 18446744073709551616 := rfl
 have hs : shl .u64 (IntKind.u64.wrap c) (8 * r : Nat) = c * 256 ^ r := by
  unfold shl
  rw [u64 hc0 (by omega), Int.toNat_natCast]
  have : min (8 * r) IntKind.u64.bits = 8 * r := Nat.min_eq_left (by show 8 * r ≤ 64; omega)
  rw [this, Int.pow_mul]
  have e : (2 : Int) ^ 8 = 256 := rfl
  rw [e]
  apply u64
  ·exact Int.mul_nonneg hc0 (Int.le_of_lt (Int.pow_pos (by decide)))
  ·have : r = 0 ∨ r = 1 ∨ r = 2 ∨ r = 3 ∨ r = 4 ∨ r = 5 ∨ r = 6 ∨ r = 7 := by omega
   rcases this with rfl | rfl | rfl | rfl | rfl | rfl | rfl | rfl <;> omega
 rw [hs]
 have hb : 0 ≤ c * 256 ^ r ∧ c * 256 ^ r < 256 ^ (r + 1) ∧ 0 ≤ x + c * 256 ^ r ∧ x + c * 256 ^ r < B64 ∧ (x + c * 256 ^ r) % 256 ^ r = 0 ∧ c * 256 ^ r < 2 ^ 64 := by
  have : r = 0 ∨ r = 1 ∨ r = 2 ∨ r = 3 ∨ r = 4 ∨ r = 5 ∨ r = 6 ∨ r = 7 := by omega
  rcases this with rfl | rfl | rfl | rfl | rfl | rfl | rfl | rfl <;> (clear hs; simp only [B64] at hx1 ⊢; omega)
 refine ⟨?_, hb.2.2.1, hb.2.2.2.1, hb.2.2.2.2.1⟩
 have hp : (2 : Int) ^ (8 * (r + 1)) = 256 ^ (r + 1) := by rw [Int.pow_mul]; rfl
 exact bits_join .u64 64 (by decide) wraps_u64 (8 * (r + 1)) x (c * 256 ^ r) hx0 (by rw [hp]; exact hm) (by rw [h64] at hx1; simpa using hx1) hb.1 (by rw [hp]; exact hb.2.1) hb.2.2.2.2.2
theorem words_l0 (s : ByteArray) (hs : s.size ≤ 1099511627776) : ∀ (d i : Nat) (w : List Int), i + d = s.size → w.length = (s.size + 7) / 8 → Dig B64 w → vB B64 w = vB 256 ((bytesOf s).take i).reverse * 256 ^ d →
  (0 < d → rd w ((d - 1) / 8 : Nat) % 256 ^ ((d - 1) % 8 + 1) = 0 ∧ ∀ q : Nat, q < (d - 1) / 8 → rd w (q : Int) = 0) → Ev (fun k => exact_words.l0 k s w (s.size : Int) (i : Int)) (d64 (bval s).toNat) := by
 intro d
 induction d with
 | zero =>
  intro i w hi hl hd hv _
  have hi : i = s.size := by omega
  subst hi
  have hv' : vB B64 w = bval s := by rw [hv, high_all]; simp
  refine Ev.step (f := fun k => (exact_trim.f k w).bind fun t => some t) (fun k => ?_) (Ev.bind (trim_ev hd (by omega)) ?_)
  ·simp only [exact_words.l0]
   rw [if_neg (by omega)]
  ·rw [hv']
   exact Ev.now _
 | succ d ih =>
  intro i w hi hl hd hv hz
  obtain ⟨hz1, hz2⟩ := hz (by omega)
  rw [Nat.add_sub_cancel] at hz1 hz2
  have hq : d / 8 < w.length := by omega
  have hr : d % 8 < 8 := Nat.mod_lt _ (by decide)
  have e1 : wrap64 (Int.tdiv (wrap64 (wrap64 ((s.size : Int) - 1) - (i : Int))) 8) = ((d / 8 : Nat) : Int) := by
   rw [w64 (x := (s.size : Int) - 1) (by omega) (by omega), w64 (x := (s.size : Int) - 1 - (i : Int)) (by omega) (by omega)]
   have : (s.size : Int) - 1 - (i : Int) = (d : Int) := by omega
   rw [this, Int.tdiv_eq_ediv_of_nonneg (by omega), w64 (by omega) (by omega)]
   omega
  have e2 : wrap64 (8 * Int.tmod (wrap64 (wrap64 ((s.size : Int) - 1) - (i : Int))) 8) = ((8 * (d % 8) : Nat) : Int) := by
   rw [w64 (x := (s.size : Int) - 1) (by omega) (by omega), w64 (x := (s.size : Int) - 1 - (i : Int)) (by omega) (by omega)]
   have : (s.size : Int) - 1 - (i : Int) = (d : Int) := by omega
   rw [this, Int.tmod_eq_emod_of_nonneg (by omega), w64 (by omega) (by omega)]
   omega
  have e3 : wrap64 ((i : Int) + 1) = ((i + 1 : Nat) : Int) := by rw [w64 (by omega) (by omega)]; omega
  have c1 : (i : Int) < (s.size : Int) := by omega
  have c3 : ((d / 8 : Nat) : Int) < (w.length : Int) := Int.ofNat_lt.2 hq
  have c4 : 0 < (d / 8 : Nat) → d % 8 = 0 → (d - 1) / 8 = d / 8 - 1 := by omega
  have hi' : i + 1 + d = s.size := by omega
  obtain ⟨hx0, hx1⟩ := Dig_rd hd (d / 8) hq
  obtain ⟨hc0, hc1⟩ := bt_range s (i : Int)
  obtain ⟨ho, ho0, ho1, ho2⟩ := word_or (rd w ((d / 8 : Nat) : Int)) (bt s (i : Int)) (d % 8) hr hx0 hx1 hz1 hc0 hc1
  have hk : 8 * (d / 8) + d % 8 = d := Nat.div_add_mod d 8
  refine Ev.step (f := fun k => exact_words.l0 k s (w.set (d / 8) (rd w ((d / 8 : Nat) : Int) + bt s (i : Int) * 256 ^ (d % 8))) (s.size : Int) ((i + 1 : Nat) : Int)) (fun k => ?_) (ih (i + 1) _ hi' (by rw [List.length_set]; exact hl) (Dig_set hd _ ho0 ho1) ?_ ?_)
  ·simp only [exact_words.l0, e1, e2, e3]
   rw [if_pos c1, if_pos (Int.natCast_nonneg _), if_pos c3, if_pos (Int.natCast_nonneg _), if_pos c1, if_pos (Int.natCast_nonneg _), ho, Int.toNat_natCast]
  ·rw [vB_set _ _ _ _ hq, hv, high_succ s i (by omega)]
   have e : rd w ((d / 8 : Nat) : Int) + bt s (i : Int) * 256 ^ (d % 8) - rd w ((d / 8 : Nat) : Int) = 256 ^ (d % 8) * bt s (i : Int) := by
    rw [Int.mul_comm (256 ^ (d % 8))]; omega
   rw [e, ← Int.mul_assoc, pow8, hk, Int.pow_succ, Int.add_mul]
   generalize vB 256 ((bytesOf s).take i).reverse = H
   generalize (256 : Int) ^ d = P
   generalize bt s (i : Int) = c
   rw [Int.mul_comm P c, Int.add_comm, Int.mul_assoc 256 H P, Int.mul_comm P 256, ← Int.mul_assoc H 256 P, Int.mul_comm H 256, Int.mul_assoc 256 H P]
  ·intro hd0
   by_cases h0 : d % 8 = 0
   ·have h1 : (d - 1) / 8 = d / 8 - 1 := by omega
    have h2 : 0 < d / 8 := by omega
    rw [h1]
    refine ⟨?_, fun q hq' => ?_⟩
    ·rw [rd_set_ne _ _ _ _ (by omega), hz2 _ (by omega)]
     simp
    ·rw [rd_set_ne _ _ _ _ (by omega), hz2 _ (by omega)]
   ·have h1 : (d - 1) / 8 = d / 8 := by omega
    have h2 : (d - 1) % 8 + 1 = d % 8 := by omega
    rw [h1, h2]
    refine ⟨?_, fun q hq' => ?_⟩
    ·rw [rd_set_self _ _ _ hq]
     exact ho2
    ·rw [rd_set_ne _ _ _ _ (by omega), hz2 _ (by omega)]
theorem words_ev (s : ByteArray) (hs : s.size ≤ 1099511627776) : Ev (fun k => exact_words.f k s) (d64 (bval s).toNat) := by
 have e1 : wrap64 (Int.tdiv (wrap64 ((s.size : Int) + 7)) 8) = (((s.size + 7) / 8 : Nat) : Int) := by
  rw [w64 (x := (s.size : Int) + 7) (by omega) (by omega), Int.tdiv_eq_ediv_of_nonneg (by omega), w64 (by omega) (by omega)]
  omega
 refine Ev.congr (f := fun k => exact_words.l0 k s (List.replicate ((s.size + 7) / 8) 0) (s.size : Int) ((0 : Nat) : Int)) (fun k => ?_) (words_l0 s hs s.size 0 _ (by omega) (by simp) (Dig_replicate (by decide) _) ?_ ?_)
 ·unfold exact_words.f
  rw [e1, if_pos (by omega), Int.toNat_natCast, if_pos (by omega)]
  rfl
 ·rw [vB_replicate]
  simp [vB]
 ·intro _
  exact ⟨by rw [rd_replicate]; simp, fun q _ => rd_replicate _ _⟩
theorem words_nat {n : Nat} (hs : (nat n).size ≤ 1099511627776) : Ev (fun k => exact_words.f k (nat n)) (d64 n) := by
 have := words_ev (nat n) hs
 rwa [bval_nat, Int.toNat_natCast] at this
theorem set_reverse (l : List Int) (p : Nat) (v : Int) (h : p < l.length) : (l.set p v).reverse = l.reverse.set (l.length - 1 - p) v := by
 apply List.ext_getElem?
 intro j
 rcases Nat.lt_or_ge j l.length with hj | hj
 ·rw [List.getElem?_reverse (by rw [List.length_set]; exact hj), List.length_set, List.getElem?_set, List.getElem?_set, List.length_reverse]
  by_cases e : p = l.length - 1 - j
  ·have e' : l.length - 1 - p = j := by omega
   rw [if_pos e, if_pos h, if_pos e', if_pos (by omega)]
  ·have e' : ¬ l.length - 1 - p = j := by omega
   rw [if_neg e, if_neg e', List.getElem?_reverse hj]
 ·rw [List.getElem?_eq_none (by simp; omega), List.getElem?_eq_none (by simp; omega)]
theorem pack_l2 (b : List Int) (hd : Dig 256 b) (hb : b.length < 9223372036854775807) (n : Nat) (hv : vB 256 b.reverse = n) (hn : n ≠ 0) : ∀ (d i : Nat), i + d = b.length → (∀ j : Nat, j < i → rd b (j : Int) = 0) → Ev (fun k => exact_pack.l2 k b (i : Int)) (nat n) := by
 intro d
 induction d with
 | zero =>
  intro i hi hz
  have := vB_zero 256 (l := b.reverse) (fun j hj => by
   rw [List.length_reverse] at hj
   rw [rd_reverse _ _ hj]
   exact hz _ (by omega))
  omega
 | succ d ih =>
  intro i hi hz
  by_cases h0 : rd b (i : Int) = 0
  ·have e1 : wrap64 ((i : Int) + 1) = ((i + 1 : Nat) : Int) := by rw [w64 (by omega) (by omega)]; omega
   refine Ev.step (f := fun k => exact_pack.l2 k b ((i + 1 : Nat) : Int)) (fun k => ?_) (ih (i + 1) (by omega) (fun j hj => ?_))
   ·simp only [exact_pack.l2, e1]
    rw [if_pos (by omega), if_pos (by omega), if_pos h0]
   ·rcases Nat.lt_or_ge j i with h | h
    ·exact hz j h
    ·have : j = i := by omega
     subst this
     exact h0
  ·refine Ev.step (f := fun _ => some (nat n)) (fun k => ?_) (Ev.now _)
   simp only [exact_pack.l2]
   rw [if_pos (by omega), if_pos (by omega), if_neg h0, if_pos (by omega), Int.toNat_natCast]
   congr 1
   unfold nat
   congr 1
   have hu : (b.drop i).reverse = d8 n := by
    refine d8_unique (Dig_reverse (Dig_drop hd _)) (fun hp => ?_) ?_
    ·rw [List.length_reverse] at hp ⊢
     rw [rd_reverse _ _ (by omega), rd_drop]
     have : i + ((b.drop i).length - 1 - ((b.drop i).length - 1)) = i := by omega
     rw [this]
     exact h0
    ·rw [← hv]
     conv => rhs; rw [← List.take_append_drop i b]
     rw [List.reverse_append, vB_append, vB_zero 256 (l := (b.take i).reverse) (fun j hj => ?_)]
     ·simp
     ·rw [List.length_reverse] at hj
      have hl : (b.take i).length = i := by rw [List.length_take]; omega
      rw [rd_reverse _ _ hj, rd_take _ _ _ (by omega)]
      exact hz _ (by omega)
   rw [← hu, List.reverse_reverse]
theorem byte_of (x : Int) (s : Nat) (hs : s < 8) (h0 : 0 ≤ x) (h1 : x < B64) : shr .u64 x ((8 * s : Nat) : Int) % 256 = x / 256 ^ s % 256 := by
 unfold shr
 rw [Int.toNat_natCast]
 have : min (8 * s) IntKind.u64.bits = 8 * s := Nat.min_eq_left (by show 8 * s ≤ 64; omega)
 rw [this, Int.pow_mul]
 rfl
theorem byte_step (x : Int) (s : Nat) (hs : s < 8) (h0 : 0 ≤ x) (h1 : x < B64) : x % 256 ^ (s + 1) = x % 256 ^ s + 256 ^ s * (x / 256 ^ s % 256) := by
 have : s = 0 ∨ s = 1 ∨ s = 2 ∨ s = 3 ∨ s = 4 ∨ s = 5 ∨ s = 6 ∨ s = 7 := by omega
 rcases this with rfl | rfl | rfl | rfl | rfl | rfl | rfl | rfl <;> simp <;> omega
def Packed (w b : List Int) (i s : Nat) : Prop :=
 b.length = 8 * w.length ∧ Dig 256 b ∧ vB 256 b.reverse = vB B64 (w.take i) + B64 ^ i * (rd w (i : Int) % 256 ^ s) ∧ ∀ j : Nat, 8 * i + s ≤ j → rd b.reverse (j : Int) = 0
theorem packed_step {w b : List Int} {i s : Nat} (hw : Dig B64 w) (hi : i < w.length) (hs : s < 8) (h : Packed w b i s) :
  8 * i + s < b.length ∧ Packed w (b.set (b.length - 1 - (8 * i + s)) (rd w (i : Int) / 256 ^ s % 256)) i (s + 1) := by
 obtain ⟨hl, hd, hv, hz⟩ := h
 obtain ⟨hx0, hx1⟩ := Dig_rd hw i hi
 have hlt : 8 * i + s < b.length := by omega
 refine ⟨hlt, by rw [List.length_set]; exact hl, Dig_set hd _ (Int.emod_nonneg _ (by decide)) (Int.emod_lt_of_pos _ (by decide)), ?_, fun j hj => ?_⟩
 ·rw [set_reverse _ _ _ (by omega)]
  have e : b.length - 1 - (b.length - 1 - (8 * i + s)) = 8 * i + s := by omega
  rw [e, vB_set _ _ _ _ (by rw [List.length_reverse]; exact hlt), hz _ (Nat.le_refl _), hv, byte_step _ s hs hx0 hx1, Int.sub_zero, Int.mul_add, ← pow8, Int.mul_assoc, Int.add_assoc]
 ·rw [set_reverse _ _ _ (by omega)]
  have e : b.length - 1 - (b.length - 1 - (8 * i + s)) = 8 * i + s := by omega
  rw [e, rd_set_ne _ _ _ _ (by omega)]
  exact hz j (by omega)
theorem packed_word {w b : List Int} {i : Nat} (hw : Dig B64 w) (hi : i < w.length) (h : Packed w b i 8) : Packed w b (i + 1) 0 := by
 obtain ⟨hl, hd, hv, hz⟩ := h
 obtain ⟨hx0, hx1⟩ := Dig_rd hw i hi
 refine ⟨hl, hd, ?_, fun j hj => hz j (by omega)⟩
 rw [hv, vB_take_succ _ _ _ hi]
 have : rd w (i : Int) % 256 ^ 8 = rd w (i : Int) := Int.emod_eq_of_lt hx0 hx1
 rw [this]
 simp
theorem pack_l1 (w : List Int) (hw : Dig B64 w) (hl : w.length ≤ 1099511627776) (i : Nat) (hi : i < w.length) (r : ByteArray)
  (next : ∀ b, Packed w b (i + 1) 0 → Ev (fun k => exact_pack.l0 k b w (w.length : Int) ((i + 1 : Nat) : Int)) r) : ∀ (d s : Nat) (b : List Int), s + d = 8 → Packed w b i s →
  Ev (fun k => exact_pack.l1 k b (i : Int) (rd w (i : Int)) w (w.length : Int) (i : Int) (s : Int)) r := by
 obtain ⟨hx0, hx1⟩ := Dig_rd hw i hi
 intro d
 induction d with
 | zero =>
  intro s b hs hp
  have hs : s = 8 := by omega
  subst hs
  refine Ev.step (f := fun k => exact_pack.l0 k b w (w.length : Int) ((i + 1 : Nat) : Int)) (fun k => ?_) (next b (packed_word hw hi hp))
  have c1 : ¬ ((8 : Nat) : Int) < 8 := by omega
  have e1 : wrap64 ((i : Int) + 1) = ((i + 1 : Nat) : Int) := by rw [w64 (by omega) (by omega)]; omega
  simp only [exact_pack.l1, e1]
  rw [if_neg c1]
 | succ d ih =>
  intro s b hs hp
  have hlb := hp.1
  obtain ⟨hlt, hp'⟩ := packed_step hw hi (by omega) hp
  refine Ev.step (f := fun k => exact_pack.l1 k (b.set (b.length - 1 - (8 * i + s)) (rd w (i : Int) / 256 ^ s % 256)) (i : Int) (rd w (i : Int)) w (w.length : Int) (i : Int) ((s + 1 : Nat) : Int)) (fun k => ?_) (ih (s + 1) _ (by omega) hp')
  have c1 : ((s : Nat) : Int) < 8 := by omega
  have c2 : ((b.length - 1 - (8 * i + s) : Nat) : Int) < (b.length : Int) := by omega
  have e0 := byte_of _ s (by omega) hx0 hx1
  have e1 : wrap64 (8 * (s : Int)) = ((8 * s : Nat) : Int) := by rw [w64 (by omega) (by omega)]; omega
  have e2 : wrap64 (wrap64 (wrap64 ((b.length : Int) - 1) - ((8 * i : Nat) : Int)) - (s : Int)) = ((b.length - 1 - (8 * i + s) : Nat) : Int) := by
   clear e1 e0
   rw [w64 (x := (b.length : Int) - 1) (by omega) (by omega), w64 (x := (b.length : Int) - 1 - ((8 * i : Nat) : Int)) (by omega) (by omega), w64 (by omega) (by omega)]
   omega
  have e4 : wrap64 (8 * (i : Int)) = ((8 * i : Nat) : Int) := by clear e0 e1 e2; rw [w64 (by omega) (by omega)]; omega
  have e3 : wrap64 ((s : Int) + 1) = ((s + 1 : Nat) : Int) := by clear e0 e1 e2 e4; rw [w64 (by omega) (by omega)]; omega
  simp only [exact_pack.l1, e1, e4, e2, e3]
  rw [if_pos c1, if_pos (Int.natCast_nonneg _), if_pos (Int.natCast_nonneg _), if_pos c2, Int.toNat_natCast, e0]
theorem pack_l0 (w : List Int) (hw : Dig B64 w) (hl : w.length ≤ 1099511627776) (n : Nat) (hv : vB B64 w = n) (hn : n ≠ 0) : ∀ (d i : Nat) (b : List Int), i + d = w.length → Packed w b i 0 → Ev (fun k => exact_pack.l0 k b w (w.length : Int) (i : Int)) (nat n) := by
 intro d
 induction d with
 | zero =>
  intro i b hi hp
  obtain ⟨h1, h2, h3, h4⟩ := hp
  have hi : i = w.length := by omega
  subst hi
  have e : vB 256 b.reverse = n := by
   rw [h3, List.take_of_length_le (Nat.le_refl _), hv]
   simp
  refine Ev.step (f := fun k => exact_pack.l2 k b ((0 : Nat) : Int)) (fun k => ?_) (pack_l2 b h2 (by omega) n e hn b.length 0 (by omega) (fun j hj => absurd hj (by omega)))
  simp only [exact_pack.l0]
  rw [if_neg (by omega)]
  rfl
 | succ d ih =>
  intro i b hi hp
  refine Ev.step (f := fun k => exact_pack.l1 k b (i : Int) (rd w (i : Int)) w (w.length : Int) (i : Int) ((0 : Nat) : Int)) (fun k => ?_) (pack_l1 w hw hl i (by omega) (nat n) (fun b' hp' => ih (i + 1) b' (by omega) hp') 8 0 b (by omega) hp)
  simp only [exact_pack.l0]
  rw [if_pos (by omega), if_pos (by omega), if_pos (by omega)]
  rfl
theorem pack_ev {l : List Int} (hd : Dig B64 l) (hl : l.length ≤ 1099511627776) : Ev (fun k => exact_pack.f k l) (nat (vB B64 l).toNat) := by
 have hv := vB_nonneg (by decide) hd
 have ht : (d64 (vB B64 l).toNat).length ≤ l.length := dgs_len (by
  have := vB_lt (by decide) hd
  have h1 : (((vB B64 l).toNat : Nat) : Int) < ((18446744073709551614 + 2 : Nat) : Int) ^ l.length := by
   rw [Int.toNat_of_nonneg hv]
   exact this
  exact_mod_cast h1)
 refine Ev.congr (f := fun k => (exact_trim.f k l).bind fun t => if (t.length : Int) = 0 then some (⟨#[]⟩ : ByteArray) else if 0 ≤ wrap64 (8 * (t.length : Int)) then (if (wrap64 (8 * (t.length : Int)) : Int).toNat ≤ 281474976710656 then exact_pack.l0 k (List.replicate (wrap64 (8 * (t.length : Int)) : Int).toNat 0) t (t.length : Int) 0 else none) else none) (fun k => rfl) (Ev.bind (trim_ev hd (by omega)) ?_)
 generalize hn : (vB B64 l).toNat = n at *
 by_cases h0 : n = 0
 ·subst h0
  rw [d64_zero, nat_zero]
  exact Ev.now _
 ·have hne : (d64 n).length ≠ 0 := by
   intro h
   have := d64_val n
   rw [List.eq_nil_of_length_eq_zero h] at this
   simp [vB] at this
   omega
  have e1 : wrap64 (8 * ((d64 n).length : Int)) = ((8 * (d64 n).length : Nat) : Int) := by rw [w64 (by omega) (by omega)]; omega
  refine Ev.congr (f := fun k => exact_pack.l0 k (List.replicate (8 * (d64 n).length) 0) (d64 n) ((d64 n).length : Int) ((0 : Nat) : Int)) (fun k => ?_) (pack_l0 (d64 n) (d64_dig n) (by omega) n (d64_val n) h0 (d64 n).length 0 _ (by omega) ⟨by simp, Dig_replicate (by decide) _, ?_, fun j _ => ?_⟩)
  ·rw [e1, if_neg (by omega), if_pos (by omega), Int.toNat_natCast, if_pos (by omega)]
   rfl
  ·rw [List.reverse_replicate, vB_replicate]
   simp [vB]
  ·rw [List.reverse_replicate, rd_replicate]
end Go.Proofs.YtdhdfcjpeflinaaN
set_option linter.unusedVariables false
namespace Go.Proofs.YtdhdfcjpeflinaaN
open Go.RowKit Go.Proofs.Ytdhdfcjpeflinaa.All Go.Proofs.YtdhdfcjpeflinaaW.PrintWords Go.Proofs.YtdhdfcjpeflinaaW.PrintLast Go.Proofs.YtdhdfcjpeflinaaW.PrintMore
theorem mul_range {a b A B : Int} (a0 : 0 ≤ a) (a1 : a ≤ A) (b0 : 0 ≤ b) (b1 : b ≤ B) : 0 ≤ a * b ∧ a * b ≤ A * B :=
 ⟨Int.mul_nonneg a0 b0, Int.le_trans (Int.mul_le_mul_of_nonneg_left b1 a0) (Int.mul_le_mul_of_nonneg_right a1 (by omega))⟩
theorem and_low {x : Int} (h0 : 0 ≤ x) (h1 : x < B64) : Go.bits .and .u64 x 4294967295 = x % 4294967296 :=
 bits_mask .u64 64 (by decide) wraps_u64 32 (by decide) x h0 (by simpa using h1)
theorem mul64_eq {x y : Int} (x0 : 0 ≤ x) (x1 : x < B64) (y0 : 0 ≤ y) (y1 : y < B64) : bits_Mul64.f x y = some (x * y / B64, x * y % B64) := by
 have x1' : x < 18446744073709551616 := x1
 have y1' : y < 18446744073709551616 := y1
 show bits_Mul64.f x y = some (x * y / 18446744073709551616, x * y % 18446744073709551616)
 obtain ⟨a, ha⟩ : ∃ a, a = x / 4294967296 := ⟨_, rfl⟩
 obtain ⟨b, hb⟩ : ∃ b, b = x % 4294967296 := ⟨_, rfl⟩
 obtain ⟨c, hc⟩ : ∃ c, c = y / 4294967296 := ⟨_, rfl⟩
 obtain ⟨d, hd⟩ : ∃ d, d = y % 4294967296 := ⟨_, rfl⟩
 have hx : x = a * 4294967296 + b := by omega
 have hy : y = c * 4294967296 + d := by omega
 have a0 : 0 ≤ a ∧ a ≤ 4294967295 := by omega
 have b0 : 0 ≤ b ∧ b ≤ 4294967295 := by omega
 have c0 : 0 ≤ c ∧ c ≤ 4294967295 := by omega
 have d0 : 0 ≤ d ∧ d ≤ 4294967295 := by omega
 have hac := mul_range a0.1 a0.2 c0.1 c0.2
 have had := mul_range a0.1 a0.2 d0.1 d0.2
 have hbc := mul_range b0.1 b0.2 c0.1 c0.2
 have hbd := mul_range b0.1 b0.2 d0.1 d0.2
 have hp : x * y = a * c * 18446744073709551616 + (a * d + b * c) * 4294967296 + b * d := by
  rw [hx, hy, Int.add_mul, Int.mul_add, Int.mul_add, Int.add_mul]
  have e1 : a * 4294967296 * (c * 4294967296) = a * c * 18446744073709551616 := by
   rw [Int.mul_assoc, Int.mul_left_comm 4294967296 c, Int.mul_assoc a c]
   congr 1
  have e2 : a * 4294967296 * d = a * d * 4294967296 := by rw [Int.mul_assoc, Int.mul_comm 4294967296 d, ← Int.mul_assoc]
  have e3 : b * (c * 4294967296) = b * c * 4294967296 := by rw [Int.mul_assoc]
  rw [e1, e2, e3]
  omega
 unfold bits_Mul64.f
 rw [and_low x0 x1, and_low y0 y1, ← ha, ← hb, ← hc, ← hd, hp]
 generalize hA : a * c = p at *
 generalize hD : a * d = q at *
 generalize hC : b * c = r at *
 generalize hE : b * d = s at *
 clear hA hD hC hE hp hx hy ha hb hc hd x0 x1 y0 y1 x1' y1'
 have h1 : (4294967295 : Int) * 4294967295 = 18446744065119617025 := rfl
 rw [h1] at *
 rw [u64 (x := s) (by omega) (by omega), u64 (x := q) (by omega) (by omega), u64 (x := q + s / 4294967296) (by omega) (by omega), and_low (x := q + s / 4294967296) (by omega) (by show _ < (18446744073709551616 : Int); omega),
  u64 (x := r) (by omega) (by omega), u64 (x := (q + s / 4294967296) % 4294967296 + r) (by omega) (by omega), u64 (x := p) (by omega) (by omega),
  u64 (x := p + (q + s / 4294967296) / 4294967296) (by omega) (by omega)]
 have e : p + (q + s / 4294967296) / 4294967296 + ((q + s / 4294967296) % 4294967296 + r) / 4294967296 = (p * 18446744073709551616 + (q + r) * 4294967296 + s) / 18446744073709551616 := by omega
 rw [e, u64 (x := (p * 18446744073709551616 + (q + r) * 4294967296 + s) / 18446744073709551616) (by clear e; omega) (by clear e; omega), u64_mod]
theorem add64_eq {x y c : Int} (x0 : 0 ≤ x) (y0 : 0 ≤ y) (c0 : 0 ≤ c) (c1 : c ≤ 1) : bits_Add64.f x y c = some ((x + y + c) % B64, (x + y + c) / B64) := by
 unfold bits_Add64.f
 rw [if_pos ⟨x0, y0, c0, c1⟩]
theorem mul_add {x y o c : Int} (x0 : 0 ≤ x) (x1 : x < B64) (y0 : 0 ≤ y) (y1 : y < B64) (o0 : 0 ≤ o) (o1 : o < B64) (c0 : 0 ≤ c) (c1 : c < B64) :
  IntKind.u64.wrap (IntKind.u64.wrap (x * y / B64 + (x * y % B64 + o + 0) / B64) + ((x * y % B64 + o + 0) % B64 + c + 0) / B64) = (x * y + o + c) / B64 ∧ ((x * y % B64 + o + 0) % B64 + c + 0) % B64 = (x * y + o + c) % B64 ∧ 0 ≤ (x * y + o + c) / B64 ∧ (x * y + o + c) / B64 < B64 := by
 have x1' : x < 18446744073709551616 := x1
 have y1' : y < 18446744073709551616 := y1
 have o1' : o < 18446744073709551616 := o1
 have c1' : c < 18446744073709551616 := c1
 have hp := mul_range x0 (show x ≤ 18446744073709551615 by omega) y0 (show y ≤ 18446744073709551615 by omega)
 have h1 : (18446744073709551615 : Int) * 18446744073709551615 = 340282366920938463426481119284349108225 := rfl
 rw [h1] at hp
 show IntKind.u64.wrap (IntKind.u64.wrap (x * y / 18446744073709551616 + (x * y % 18446744073709551616 + o + 0) / 18446744073709551616) + ((x * y % 18446744073709551616 + o + 0) % 18446744073709551616 + c + 0) / 18446744073709551616) = (x * y + o + c) / 18446744073709551616 ∧ ((x * y % 18446744073709551616 + o + 0) % 18446744073709551616 + c + 0) % 18446744073709551616 = (x * y + o + c) % 18446744073709551616 ∧ 0 ≤ (x * y + o + c) / 18446744073709551616 ∧ (x * y + o + c) / 18446744073709551616 < 18446744073709551616
 generalize x * y = p at *
 clear x0 x1 x1' y0 y1 y1' o1 c1 h1
 have a1 : 0 ≤ p / 18446744073709551616 + (p % 18446744073709551616 + o + 0) / 18446744073709551616 ∧ p / 18446744073709551616 + (p % 18446744073709551616 + o + 0) / 18446744073709551616 < 18446744073709551616 := by omega
 rw [u64 a1.1 a1.2]
 have a2 : p / 18446744073709551616 + (p % 18446744073709551616 + o + 0) / 18446744073709551616 + ((p % 18446744073709551616 + o + 0) % 18446744073709551616 + c + 0) / 18446744073709551616 = (p + o + c) / 18446744073709551616 := by omega
 have a3 : 0 ≤ (p + o + c) / 18446744073709551616 ∧ (p + o + c) / 18446744073709551616 < 18446744073709551616 := by omega
 rw [a2, u64 a3.1 a3.2]
 refine ⟨rfl, by omega, a3.1, a3.2⟩
theorem take_succ (B : Int) (l : List Int) (i : Nat) : vB B (l.take (i + 1)) = vB B (l.take i) + B ^ i * rd l (i : Int) := by
 rcases Nat.lt_or_ge i l.length with h | h
 ·exact vB_take_succ B l i h
 ·rw [List.take_of_length_le (by omega), List.take_of_length_le h, rd_nat, List.getD_eq_getElem?_getD, List.getElem?_eq_none h]
  simp
theorem rd_far (l : List Int) (i : Nat) (h : l.length ≤ i) : rd l (i : Int) = 0 := by
 rw [rd_nat, List.getD_eq_getElem?_getD, List.getElem?_eq_none h]
 rfl
theorem vB_all (B : Int) (l : List Int) (i : Nat) (h : l.length ≤ i) : vB B (l.take i) = vB B l := by rw [List.take_of_length_le h]
def MulOut (a b out : List Int) (i : Nat) : Prop :=
 out.length = a.length + b.length ∧ Dig B64 out ∧ vB B64 out = vB B64 (a.take i) * vB B64 b ∧ ∀ j : Nat, i + b.length ≤ j → rd out (j : Int) = 0
def MulIn (a b out : List Int) (i j : Nat) (c : Int) : Prop :=
 out.length = a.length + b.length ∧ Dig B64 out ∧ (0 ≤ c ∧ c < B64) ∧ vB B64 out + B64 ^ (i + j) * c = vB B64 (a.take i) * vB B64 b + B64 ^ i * (rd a (i : Int) * vB B64 (b.take j)) ∧ ∀ n : Nat, i + b.length ≤ n → rd out (n : Int) = 0
theorem mul_in {a b out : List Int} {i j : Nat} {c : Int} (ha : Dig B64 a) (hb : Dig B64 b) (hi : i < a.length) (hj : j < b.length) (h : MulIn a b out i j c) :
  MulIn a b (out.set (i + j) ((rd a (i : Int) * rd b (j : Int) + rd out ((i + j : Nat) : Int) + c) % B64)) i (j + 1) ((rd a (i : Int) * rd b (j : Int) + rd out ((i + j : Nat) : Int) + c) / B64) := by
 obtain ⟨hl, hd, hc, hv, hz⟩ := h
 obtain ⟨x0, x1⟩ := Dig_rd ha i hi
 obtain ⟨y0, y1⟩ := Dig_rd hb j hj
 obtain ⟨o0, o1⟩ := Dig_rd hd (i + j) (by omega)
 obtain ⟨-, -, n0, n1⟩ := mul_add x0 x1 y0 y1 o0 o1 hc.1 hc.2
 refine ⟨by rw [List.length_set]; exact hl, Dig_set hd _ (Int.emod_nonneg _ (by decide)) (Int.emod_lt_of_pos _ (by decide)), ⟨n0, n1⟩, ?_, fun n hn => ?_⟩
 ·rw [vB_set _ _ _ _ (by omega), take_succ, ← Nat.add_assoc, Int.pow_succ]
  have e := Int.emod_add_mul_ediv (rd a (i : Int) * rd b (j : Int) + rd out ((i + j : Nat) : Int) + c) B64
  generalize (rd a (i : Int) * rd b (j : Int) + rd out ((i + j : Nat) : Int) + c) / B64 = q at *
  generalize (rd a (i : Int) * rd b (j : Int) + rd out ((i + j : Nat) : Int) + c) % B64 = r at *
  have er : r = rd a (i : Int) * rd b (j : Int) + rd out ((i + j : Nat) : Int) + c - B64 * q := by omega
  rw [er]
  have ep : (B64 : Int) ^ (i + j) = B64 ^ i * B64 ^ j := Int.pow_add _ _ _
  rw [ep] at hv ⊢
  clear ep
  generalize vB B64 out = V at *
  generalize vB B64 (List.take i a) * vB B64 b = W at *
  generalize vB B64 (List.take j b) = U at *
  generalize (B64 : Int) ^ i = P at *
  generalize (B64 : Int) ^ j = Q at *
  generalize rd a (i : Int) = x at *
  generalize rd b (j : Int) = y at *
  generalize rd out ((i + j : Nat) : Int) = o at *
  have e1 : P * Q * (x * y + o + c - B64 * q - o) = P * Q * (x * y) + P * Q * c - P * Q * B64 * q := by
   rw [show x * y + o + c - B64 * q - o = x * y + c - B64 * q by omega, Int.mul_sub, Int.mul_add, Int.mul_assoc (P * Q) B64 q]
  have e2 : P * (x * (U + Q * y)) = P * (x * U) + P * Q * (x * y) := by
   rw [Int.mul_add x, Int.mul_add P, Int.mul_left_comm x Q y, Int.mul_assoc P Q]
  rw [e1, e2]
  omega
 ·rw [rd_set_ne _ _ _ _ (by omega)]
  exact hz n hn
theorem mulWords_l1 (a b : List Int) (ha : Dig B64 a) (hb : Dig B64 b) (la : a.length ≤ 1099511627776) (lb : b.length ≤ 1099511627776) (i : Nat) (hi : i < a.length) (r : List Int)
  (next : ∀ out, MulOut a b out (i + 1) → Ev (fun k => exact_mulWords.l0 k b out a (a.length : Int) ((i + 1 : Nat) : Int)) r) : ∀ (d j : Nat) (out : List Int) (c : Int), j + d = b.length → MulIn a b out i j c →
  Ev (fun k => exact_mulWords.l1 k b out (i : Int) (rd a (i : Int)) c a (a.length : Int) (i : Int) b (b.length : Int) (j : Int)) r := by
 intro d
 induction d with
 | zero =>
  intro j out c hj h
  have hj : j = b.length := by omega
  subst hj
  have hl := h.1
  have c1 : i + b.length < out.length := by omega
  have c2 : ((i + b.length : Nat) : Int) < (out.length : Int) := Int.ofNat_lt.2 c1
  have e1 : wrap64 ((i : Int) + (b.length : Int)) = ((i + b.length : Nat) : Int) := by rw [w64 (by omega) (by omega)]; omega
  have e2 : wrap64 ((i : Int) + 1) = ((i + 1 : Nat) : Int) := by clear e1; rw [w64 (by omega) (by omega)]; omega
  obtain ⟨-, hd, hc, hv, hz⟩ := h
  refine Ev.step (f := fun k => exact_mulWords.l0 k b (out.set (i + b.length) c) a (a.length : Int) ((i + 1 : Nat) : Int)) (fun k => ?_) (next _ ⟨by rw [List.length_set]; exact hl, Dig_set hd _ hc.1 hc.2, ?_, fun j hj => ?_⟩)
  ·simp only [exact_mulWords.l1, e1, e2]
   rw [if_neg (Int.lt_irrefl _), if_pos (Int.natCast_nonneg _), if_pos c2, Int.toNat_natCast]
  ·rw [vB_set _ _ _ _ c1, hz _ (Nat.le_refl _), Int.sub_zero, hv, take_succ, vB_all _ _ _ (Nat.le_refl _), Int.add_mul, Int.mul_assoc]
  ·rw [rd_set_ne _ _ _ _ (by clear hv e1 e2; omega)]
   exact hz j (by clear hv e1 e2; omega)
 | succ d ih =>
  intro j out c hj h
  have hj' : j < b.length := by omega
  have hn := mul_in ha hb hi hj' h
  have hl := h.1
  have c1 : i + j < out.length := by omega
  have c2 : ((i + j : Nat) : Int) < (out.length : Int) := Int.ofNat_lt.2 c1
  have c3 : (j : Int) < (b.length : Int) := Int.ofNat_lt.2 hj'
  have c4 : j + 1 + d = b.length := by omega
  have e1 : wrap64 ((i : Int) + (j : Int)) = ((i + j : Nat) : Int) := by rw [w64 (by omega) (by omega)]; omega
  have e2 : wrap64 ((j : Int) + 1) = ((j + 1 : Nat) : Int) := by clear e1; rw [w64 (by omega) (by omega)]; omega
  obtain ⟨-, hd, hc, -, -⟩ := h
  obtain ⟨x0, x1⟩ := Dig_rd ha i hi
  obtain ⟨y0, y1⟩ := Dig_rd hb j hj'
  obtain ⟨o0, o1⟩ := Dig_rd hd (i + j) c1
  obtain ⟨m0, m1, -, -⟩ := mul_add x0 x1 y0 y1 o0 o1 hc.1 hc.2
  have a1 := mul64_eq x0 x1 y0 y1
  have a2 := add64_eq (Int.emod_nonneg (rd a (i : Int) * rd b (j : Int)) (show (B64 : Int) ≠ 0 by decide)) o0 (Int.le_refl 0) (by decide)
  have a3 := add64_eq (Int.emod_nonneg (rd a (i : Int) * rd b (j : Int) % B64 + rd out ((i + j : Nat) : Int) + 0) (show (B64 : Int) ≠ 0 by decide)) hc.1 (Int.le_refl 0) (by decide)
  refine Ev.step (f := fun k => exact_mulWords.l1 k b (out.set (i + j) ((rd a (i : Int) * rd b (j : Int) + rd out ((i + j : Nat) : Int) + c) % B64)) (i : Int) (rd a (i : Int)) ((rd a (i : Int) * rd b (j : Int) + rd out ((i + j : Nat) : Int) + c) / B64) a (a.length : Int) (i : Int) b (b.length : Int) ((j + 1 : Nat) : Int)) (fun k => ?_) (ih (j + 1) _ _ c4 hn)
  simp only [exact_mulWords.l1, e1, e2]
  rw [if_pos c3, if_pos (Int.natCast_nonneg _), if_pos c3, a1, Option.bind_some, if_pos (Int.natCast_nonneg _), if_pos c2, a2, Option.bind_some, a3, Option.bind_some, m0, m1, Int.toNat_natCast]
theorem mulWords_l0 (a b : List Int) (ha : Dig B64 a) (hb : Dig B64 b) (la : a.length ≤ 1099511627776) (lb : b.length ≤ 1099511627776) : ∀ (d i : Nat) (out : List Int), i + d = a.length → MulOut a b out i →
  Ev (fun k => exact_mulWords.l0 k b out a (a.length : Int) (i : Int)) (d64 (vB B64 a * vB B64 b).toNat) := by
 intro d
 induction d with
 | zero =>
  intro i out hi h
  have hi : i = a.length := by omega
  subst hi
  obtain ⟨hl, hd, hv, hz⟩ := h
  rw [vB_all _ _ _ (Nat.le_refl _)] at hv
  refine Ev.step (f := fun k => (exact_trim.f k out).bind fun t => some t) (fun k => ?_) (Ev.bind (trim_ev hd (by omega)) ?_)
  ·simp only [exact_mulWords.l0]
   rw [if_neg (Int.lt_irrefl _)]
  ·rw [hv]
   exact Ev.now _
 | succ d ih =>
  intro i out hi h
  have hi' : i < a.length := by omega
  have c1 : (i : Int) < (a.length : Int) := Int.ofNat_lt.2 hi'
  obtain ⟨hl, hd, hv, hz⟩ := h
  refine Ev.step (f := fun k => exact_mulWords.l1 k b out (i : Int) (rd a (i : Int)) 0 a (a.length : Int) (i : Int) b (b.length : Int) ((0 : Nat) : Int)) (fun k => ?_) (mulWords_l1 a b ha hb la lb i hi' _ (fun out' h' => ih (i + 1) out' (by omega) h') b.length 0 out 0 (by omega) ⟨hl, hd, ⟨by decide, by decide⟩, ?_, hz⟩)
  ·simp only [exact_mulWords.l0]
   rw [if_pos c1, if_pos (Int.natCast_nonneg _), if_pos c1]
   rfl
  ·rw [hv]
   simp [vB]
theorem mulWords_ev {a b : List Int} (ha : Dig B64 a) (hb : Dig B64 b) (la : a.length ≤ 1099511627776) (lb : b.length ≤ 1099511627776) : Ev (fun k => exact_mulWords.f k a b) (d64 (vB B64 a * vB B64 b).toNat) := by
 have e1 : wrap64 ((a.length : Int) + (b.length : Int)) = ((a.length + b.length : Nat) : Int) := by rw [w64 (by omega) (by omega)]; omega
 refine Ev.congr (f := fun k => exact_mulWords.l0 k b (List.replicate (a.length + b.length) 0) a (a.length : Int) ((0 : Nat) : Int)) (fun k => ?_) (mulWords_l0 a b ha hb la lb a.length 0 _ (by omega) ⟨by simp, Dig_replicate (by decide) _, ?_, fun j _ => rd_replicate _ _⟩)
 ·unfold exact_mulWords.f
  rw [e1, if_pos (Int.natCast_nonneg _), Int.toNat_natCast, if_pos (by omega)]
  rfl
 ·rw [vB_replicate]
  simp [vB]
theorem mulWords_d64 {m n : Nat} (lm : (d64 m).length ≤ 1099511627776) (ln : (d64 n).length ≤ 1099511627776) : Ev (fun k => exact_mulWords.f k (d64 m) (d64 n)) (d64 (m * n)) := by
 have := mulWords_ev (d64_dig m) (d64_dig n) lm ln
 rw [d64_val, d64_val] at this
 rwa [show ((m : Int) * (n : Int)).toNat = m * n by rw [← Int.natCast_mul, Int.toNat_natCast]] at this
end Go.Proofs.YtdhdfcjpeflinaaN
set_option linter.unusedVariables false
namespace Go.Proofs.YtdhdfcjpeflinaaN
open Go.RowKit Go.Proofs.Ytdhdfcjpeflinaa.All Go.Proofs.YtdhdfcjpeflinaaW.PrintWords Go.Proofs.YtdhdfcjpeflinaaW.PrintLast Go.Proofs.YtdhdfcjpeflinaaW.PrintMore
theorem size_mono {m n : Nat} (h : m ≤ n) : (nat m).size ≤ (nat n).size := nat_size_le.2 (Nat.lt_of_le_of_lt h (nat_lt_size n))
theorem size_add {m n : Nat} : (nat (m + n)).size ≤ max (nat m).size (nat n).size + 1 := by
 apply nat_size_le.2
 have h1 := nat_lt_size m
 have h2 := nat_lt_size n
 have h3 : 256 ^ (nat m).size ≤ 256 ^ max (nat m).size (nat n).size := Nat.pow_le_pow_right (by decide) (Nat.le_max_left _ _)
 have h4 : 256 ^ (nat n).size ≤ 256 ^ max (nat m).size (nat n).size := Nat.pow_le_pow_right (by decide) (Nat.le_max_right _ _)
 rw [Nat.pow_succ]
 generalize 256 ^ max (nat m).size (nat n).size = P at *
 generalize 256 ^ (nat m).size = Q at *
 generalize 256 ^ (nat n).size = R at *
 omega
theorem size_mul {m n : Nat} : (nat (m * n)).size ≤ (nat m).size + (nat n).size := by
 apply nat_size_le.2
 rw [Nat.pow_add]
 have h1 := nat_lt_size m
 have h2 := nat_lt_size n
 exact Nat.lt_of_le_of_lt (Nat.mul_le_mul_right _ (Nat.le_of_lt h1)) (Nat.mul_lt_mul_of_pos_left h2 (Nat.lt_of_le_of_lt (Nat.zero_le _) h1))
theorem words_len (n : Nat) : (d64 n).length ≤ ((nat n).size + 7) / 8 := by
 apply dgs_len
 have h1 := nat_lt_size n
 have h2 : 256 ^ (nat n).size ≤ 256 ^ (8 * (((nat n).size + 7) / 8)) := Nat.pow_le_pow_right (by decide) (by omega)
 rw [Nat.pow_mul] at h2
 exact Nat.lt_of_lt_of_le h1 h2
def AddOut (x y out : List Int) (i : Nat) (c : Int) : Prop :=
 out.length = x.length + 1 ∧ Dig B64 out ∧ (0 ≤ c ∧ c ≤ 1) ∧ vB B64 out + B64 ^ i * c = vB B64 (x.take i) + vB B64 (y.take i) ∧ ∀ n : Nat, i ≤ n → rd out (n : Int) = 0
theorem add_range {x y c : Int} (x0 : 0 ≤ x) (x1 : x < B64) (y0 : 0 ≤ y) (y1 : y < B64) (c0 : 0 ≤ c) (c1 : c ≤ 1) : 0 ≤ (x + y + c) / B64 ∧ (x + y + c) / B64 ≤ 1 := by
 have x1' : x < 18446744073709551616 := x1
 have y1' : y < 18446744073709551616 := y1
 show 0 ≤ (x + y + c) / 18446744073709551616 ∧ (x + y + c) / 18446744073709551616 ≤ 1
 omega
theorem add_out {x y out : List Int} {i : Nat} {c : Int} (hx : Dig B64 x) (hy : Dig B64 y) (hi : i < x.length) (h : AddOut x y out i c) :
  AddOut x y (out.set i ((rd x (i : Int) + rd y (i : Int) + c) % B64)) (i + 1) ((rd x (i : Int) + rd y (i : Int) + c) / B64) := by
 obtain ⟨hl, hd, hc, hv, hz⟩ := h
 obtain ⟨x0, x1⟩ := Dig_rd hx i hi
 obtain ⟨y0, y1⟩ := Dig_rd0 (by decide) hy i
 refine ⟨by rw [List.length_set]; exact hl, Dig_set hd _ (Int.emod_nonneg _ (by decide)) (Int.emod_lt_of_pos _ (by decide)), add_range x0 x1 y0 y1 hc.1 hc.2, ?_, fun n hn => ?_⟩
 ·rw [vB_set _ _ _ _ (by clear hv; omega), hz _ (Nat.le_refl _), Int.sub_zero, take_succ, take_succ, Int.pow_succ]
  have e := Int.emod_add_mul_ediv (rd x (i : Int) + rd y (i : Int) + c) B64
  generalize (rd x (i : Int) + rd y (i : Int) + c) / B64 = q at *
  generalize (rd x (i : Int) + rd y (i : Int) + c) % B64 = r at *
  have er : r = rd x (i : Int) + rd y (i : Int) + c - B64 * q := by clear hv; omega
  rw [er, Int.mul_sub, Int.mul_add, Int.mul_add, Int.mul_assoc (B64 ^ i) B64 q]
  generalize (B64 : Int) ^ i = P at *
  omega
 ·rw [rd_set_ne _ _ _ _ (by clear hv; omega)]
  exact hz n (by clear hv; omega)
theorem NatAdd_l0 (x y : List Int) (hx : Dig B64 x) (hy : Dig B64 y) (lx : x.length ≤ 1099511627775) (hyx : y.length ≤ x.length) (n : Nat) (hn : vB B64 x + vB B64 y = n) : ∀ (d i : Nat) (out : List Int) (c : Int), i + d = x.length → AddOut x y out i c →
  Ev (fun k => exact_NatAdd.l0 k x y out c (x.length : Int) (i : Int)) (nat n) := by
 intro d
 induction d with
 | zero =>
  intro i out c hi h
  have hi : i = x.length := by omega
  subst hi
  have hl := h.1
  have c1 : (x.length : Int) < (out.length : Int) := by omega
  have c2 : x.length < out.length := by omega
  have c3 : out.length ≤ 1099511627776 := by omega
  obtain ⟨-, hd, hc, hv, hz⟩ := h
  have hd' : Dig B64 (out.set x.length c) := Dig_set hd _ hc.1 (by have := hc.2; exact Int.lt_of_le_of_lt this (by decide))
  have hv' : vB B64 (out.set x.length c) = n := by
   rw [vB_set _ _ _ _ c2, hz _ (Nat.le_refl _), Int.sub_zero, hv, vB_all _ _ _ (Nat.le_refl _), vB_all _ _ _ hyx, hn]
  have := pack_ev hd' (by rw [List.length_set]; exact c3)
  rw [hv', Int.toNat_natCast] at this
  refine Ev.step (f := fun k => (exact_pack.f k (out.set x.length c)).bind fun t => some t) (fun k => ?_) (Ev.bind this (Ev.now _))
  simp only [exact_NatAdd.l0]
  rw [if_neg (Int.lt_irrefl _), if_pos (Int.natCast_nonneg _), if_pos c1, Int.toNat_natCast]
 | succ d ih =>
  intro i out c hi h
  have hi' : i < x.length := by omega
  have c0 : i + 1 + d = x.length := by omega
  have c1 : (i : Int) < (x.length : Int) := Int.ofNat_lt.2 hi'
  have hl := h.1
  have c2 : (i : Int) < (out.length : Int) := by omega
  have c3 : ¬ (i : Int) < (y.length : Int) → rd y (i : Int) = 0 := fun h => rd_far y i (by omega)
  have e1 : wrap64 ((i : Int) + 1) = ((i + 1 : Nat) : Int) := by clear c3; rw [w64 (by omega) (by omega)]; omega
  have hn' := add_out hx hy hi' h
  obtain ⟨-, hd, hc, -, -⟩ := h
  obtain ⟨x0, x1⟩ := Dig_rd hx i hi'
  obtain ⟨y0, y1⟩ := Dig_rd0 (by decide) hy i
  have ea := add64_eq x0 y0 hc.1 hc.2
  refine Ev.step (f := fun k => exact_NatAdd.l0 k x y (out.set i ((rd x (i : Int) + rd y (i : Int) + c) % B64)) ((rd x (i : Int) + rd y (i : Int) + c) / B64) (x.length : Int) ((i + 1 : Nat) : Int)) (fun k => ?_) (ih (i + 1) _ _ c0 hn')
  simp only [exact_NatAdd.l0, e1]
  rw [if_pos c1]
  by_cases hy' : (i : Int) < (y.length : Int)
  ·rw [if_pos hy', if_pos (Int.natCast_nonneg _), if_pos c1, ea, Option.bind_some, if_pos c2, Int.toNat_natCast]
  ·rw [c3 hy'] at ea
   rw [if_neg hy', if_pos (Int.natCast_nonneg _), if_pos c1, ea, Option.bind_some, if_pos c2, Int.toNat_natCast, c3 hy']
theorem NatAdd_j0 {m n : Nat} (hm : (d64 m).length ≤ 1099511627775) (h : (d64 n).length ≤ (d64 m).length) : Ev (fun k => exact_NatAdd.j0 k (d64 m) (d64 n)) (nat (m + n)) := by
 have e1 : wrap64 (((d64 m).length : Int) + 1) = (((d64 m).length + 1 : Nat) : Int) := by rw [w64 (by omega) (by omega)]; omega
 refine Ev.step (f := fun k => exact_NatAdd.l0 k (d64 m) (d64 n) (List.replicate ((d64 m).length + 1) 0) 0 ((d64 m).length : Int) ((0 : Nat) : Int)) (fun k => ?_) (NatAdd_l0 (d64 m) (d64 n) (d64_dig m) (d64_dig n) hm h (m + n) (by rw [d64_val, d64_val, Int.natCast_add]) (d64 m).length 0 _ _ (Nat.zero_add _) ⟨by simp, Dig_replicate (by decide) _, ⟨by decide, by decide⟩, ?_, fun j _ => rd_replicate _ _⟩)
 ·simp only [exact_NatAdd.j0, e1]
  rw [if_pos (Int.natCast_nonneg _), Int.toNat_natCast, if_pos (by omega)]
  rfl
 ·rw [vB_replicate]
  simp [vB]
theorem NatAdd_ev {m n : Nat} (hm : (nat m).size ≤ 1099511627776) (hn : (nat n).size ≤ 1099511627776) : Ev (fun k => exact_NatAdd.f k (nat m) (nat n)) (nat (m + n)) := by
 have lm := words_len m
 have ln := words_len n
 refine Ev.bind (f := fun k t318 => (exact_words.f k (nat n)).bind fun t321 => (if (t318.length : Int) < (t321.length : Int) then (exact_NatAdd.j0 k t321 t318) else (exact_NatAdd.j0 k t318 t321))) (words_nat hm) (Ev.bind (words_nat hn) ?_)
 by_cases h : ((d64 m).length : Int) < ((d64 n).length : Int)
 ·refine Ev.congr (f := fun k => exact_NatAdd.j0 k (d64 n) (d64 m)) (fun k => if_pos h) ?_
  rw [Nat.add_comm m n]
  exact NatAdd_j0 (by omega) (by omega)
 ·refine Ev.congr (f := fun k => exact_NatAdd.j0 k (d64 m) (d64 n)) (fun k => if_neg h) ?_
  exact NatAdd_j0 (by omega) (by omega)
theorem NatMul_ev {m n : Nat} (hm : (nat m).size ≤ 1099511627776) (hn : (nat n).size ≤ 1099511627776) : Ev (fun k => exact_NatMul.f k (nat m) (nat n)) (nat (m * n)) := by
 have lm := words_len m
 have ln := words_len n
 have hl : (d64 (m * n)).length ≤ 1099511627776 := by
  have h1 := words_len (m * n)
  have h2 := size_mul (m := m) (n := n)
  omega
 refine Ev.bind (f := fun k t422 => (exact_words.f k (nat n)).bind fun t425 => ((exact_mulWords.f k t422 t425).bind fun t428 => ((exact_pack.f k t428).bind fun t431 => (some t431)))) (words_nat hm) (Ev.bind (f := fun k t425 => ((exact_mulWords.f k (d64 m) t425).bind fun t428 => ((exact_pack.f k t428).bind fun t431 => (some t431)))) (words_nat hn) (Ev.bind (f := fun k t428 => ((exact_pack.f k t428).bind fun t431 => (some t431))) (mulWords_d64 (by omega) (by omega)) ?_))
 have := pack_ev (d64_dig (m * n)) hl
 rw [d64_val, Int.toNat_natCast] at this
 exact Ev.bind this (Ev.now _)
def cmpN (m n : Nat) : Int := if m < n then -1 else if m = n then 0 else 1
def bv (l : List UInt8) : Int := vB 256 (l.map fun b => (b.toNat : Int)).reverse
theorem bv_cons (a : UInt8) (l : List UInt8) : bv (a :: l) = bv l + 256 ^ l.length * (a.toNat : Int) := by
 unfold bv
 rw [List.map_cons, List.reverse_cons, vB_append]
 simp [vB]
theorem bv_range (l : List UInt8) : 0 ≤ bv l ∧ bv l < 256 ^ l.length := by
 have hd : Dig 256 (l.map fun b => (b.toNat : Int)).reverse := by
  apply Dig_reverse
  intro x hx
  obtain ⟨b, _, rfl⟩ := List.mem_map.1 hx
  have := b.toNat_lt
  omega
 refine ⟨vB_nonneg (by decide) hd, ?_⟩
 have := vB_lt (by decide) hd
 rw [List.length_reverse, List.length_map] at this
 exact this
theorem less_val : ∀ (x y : List UInt8), x.length = y.length → (Op.bytesLess x y = true ↔ bv x < bv y)
 | [], [], _ => by simp [Op.bytesLess]
 | [], _ :: _, h => by simp at h
 | _ :: _, [], h => by simp at h
 | a :: x, b :: y, h => by
  have h' : x.length = y.length := by simpa using h
  have ih := less_val x y h'
  obtain ⟨a0, a1⟩ := bv_range x
  obtain ⟨b0, b1⟩ := bv_range y
  rw [bv_cons, bv_cons, h'] at *
  have hP : (0 : Int) < 256 ^ y.length := Int.pow_pos (by decide)
  generalize (256 : Int) ^ y.length = P at *
  simp only [Op.bytesLess, Bool.or_eq_true, Bool.and_eq_true, decide_eq_true_eq, beq_iff_eq, ih]
  have hlt : a < b ↔ a.toNat < b.toNat := UInt8.lt_iff_toNat_lt
  have heq : a = b ↔ a.toNat = b.toNat := UInt8.toNat_inj.symm
  rw [hlt, heq]
  rcases Nat.lt_trichotomy a.toNat b.toNat with hc | hc | hc
  ·have : P * ((a.toNat : Int) + 1) ≤ P * (b.toNat : Int) := Int.mul_le_mul_of_nonneg_left (by omega) (by omega)
   rw [Int.mul_add, Int.mul_one] at this
   constructor
   ·intro _; omega
   ·intro _; exact Or.inl hc
  ·rw [hc]
   constructor
   ·rintro (h | ⟨_, h⟩)
    ·omega
    ·omega
   ·intro h; exact Or.inr ⟨rfl, by omega⟩
  ·have : P * ((b.toNat : Int) + 1) ≤ P * (a.toNat : Int) := Int.mul_le_mul_of_nonneg_left (by omega) (by omega)
   rw [Int.mul_add, Int.mul_one] at this
   constructor
   ·rintro (h | ⟨h, _⟩) <;> omega
   ·intro h; omega
theorem bv_bval (s : ByteArray) : bv s.toList = bval s := by
 unfold bv bval bytesOf
 rw [ByteArray.toList_eq]
theorem toList_len (s : ByteArray) : s.toList.length = s.size := by
 rw [ByteArray.toList_eq, data_length]
theorem less_nat {m n : Nat} (h : (nat m).size = (nat n).size) : Op.bytesLess (nat m).toList (nat n).toList = decide (m < n) := by
 have := less_val (nat m).toList (nat n).toList (by rw [toList_len, toList_len, h])
 rw [bv_bval, bv_bval, bval_nat, bval_nat, Int.ofNat_lt] at this
 rw [Bool.eq_iff_iff, this, decide_eq_true_iff]
theorem size_lt {m n : Nat} (h : (nat m).size < (nat n).size) : m < n := by
 rcases Nat.lt_or_ge m n with h1 | h1
 ·exact h1
 ·have := size_mono h1
  omega
theorem NatCmp_ev (m n : Nat) : Ev (fun k => exact_NatCmp.f k (nat m) (nat n)) (cmpN m n) := by
 have hj : ∀ b : Bool, b = decide (m < n) → Ev (fun k => exact_NatCmp.j0 k (nat m) (nat n) b) (cmpN m n) := by
  rintro b rfl
  refine Ev.step (f := fun _ => some (cmpN m n)) (fun k => ?_) (Ev.now _)
  simp only [exact_NatCmp.j0, toList_ext, nat_inj, decide_eq_true_eq, cmpN]
  split
  ·rfl
  ·split <;> rfl
 by_cases h1 : (nat m).size < (nat n).size
 ·refine Ev.congr (f := fun k => exact_NatCmp.j0 k (nat m) (nat n) true) (fun k => ?_) (hj _ (by simp [size_lt h1]))
  unfold exact_NatCmp.f
  rw [if_pos (by omega)]
 ·by_cases h2 : (nat m).size = (nat n).size
  ·refine Ev.congr (f := fun k => exact_NatCmp.j0 k (nat m) (nat n) (Op.bytesLess (nat m).toList (nat n).toList)) (fun k => ?_) (hj _ (less_nat h2))
   unfold exact_NatCmp.f
   rw [if_neg (by omega), if_pos (by omega)]
  ·refine Ev.congr (f := fun k => exact_NatCmp.j0 k (nat m) (nat n) false) (fun k => ?_) (hj _ (by
    have : n < m := size_lt (by omega)
    simp; omega))
   unfold exact_NatCmp.f
   rw [if_neg (by omega), if_neg (by omega)]
def chk (s : ByteArray) : Int := if 0 < s.size ∧ bt s 0 = 0 then 1 else if 1024 < s.size then 4 else 0
theorem Check_ev (s : ByteArray) : Ev (fun k => natural_Check.f k s) (chk s) := by
 have hj : ∀ b : Bool, (b = true ↔ 0 < s.size ∧ bt s 0 = 0) → Ev (fun k => natural_Check.j0 k s b) (chk s) := by
  intro b hb
  refine Ev.step (f := fun _ => some (chk s)) (fun k => ?_) (Ev.now _)
  unfold chk
  simp only [natural_Check.j0]
  by_cases h : b = true
  ·rw [if_pos h, if_pos (hb.1 h)]
  ·rw [if_neg h, if_neg (fun h' => h (hb.2 h'))]
   by_cases h3 : 1024 < s.size
   ·rw [if_pos (by omega), if_pos h3]
   ·rw [if_neg (by omega), if_neg h3]
 by_cases h : 0 < s.size
 ·refine Ev.congr (f := fun k => natural_Check.j0 k s (bt s 0 == 0)) (fun k => ?_) (hj _ (by simp [h]))
  unfold natural_Check.f
  rw [if_pos (by omega), if_pos (by omega)]
 ·refine Ev.congr (f := fun k => natural_Check.j0 k s false) (fun k => ?_) (hj _ (by simp [h]))
  unfold natural_Check.f
  rw [if_neg (by omega)]
theorem chk_nat {n : Nat} (h : (nat n).size ≤ 1024) : chk (nat n) = 0 := by
 unfold chk
 rw [if_neg, if_neg (by omega)]
 rintro ⟨h1, h2⟩
 rcases nat_wf n with h3 | h3
 ·omega
 ·exact h3 h2
theorem chk_zero {s : ByteArray} (h : chk s = 0) : s = nat (bval s).toNat ∧ s.size ≤ 1024 := by
 unfold chk at h
 by_cases h1 : 0 < s.size ∧ bt s 0 = 0
 ·rw [if_pos h1] at h; omega
 ·rw [if_neg h1] at h
  refine ⟨wf_nat ?_, ?_⟩
  ·rcases Nat.eq_zero_or_pos s.size with h2 | h2
   ·exact Or.inl h2
   ·exact Or.inr (fun h3 => h1 ⟨h2, h3⟩)
  ·rcases Nat.lt_or_ge 1024 s.size with h2 | h2
   ·rw [if_pos h2] at h; omega
   ·exact h2
def bnd (n : Nat) : ByteArray × Int := if 1024 < (nat n).size then (⟨#[]⟩, 4) else (nat n, 0)
end Go.Proofs.YtdhdfcjpeflinaaN
set_option linter.unusedVariables false
namespace Go.Proofs.YtdhdfcjpeflinaaN
open Go.RowKit Go.Proofs.Ytdhdfcjpeflinaa.All Go.Proofs.YtdhdfcjpeflinaaW.PrintWords Go.Proofs.YtdhdfcjpeflinaaW.PrintLast Go.Proofs.YtdhdfcjpeflinaaW.PrintMore
theorem ev_some {α β : Type} {o : Option α} {f : Nat → α → Option β} {a : α} {r : β} (h : o = some a) (k : Ev (fun n => f n a) r) : Ev (fun n => o.bind (f n)) r := by subst h; exact k
theorem number {s : ByteArray} (h : chk s = 0) : ∃ n, s = nat n ∧ (nat n).size ≤ 1024 := by
 obtain ⟨h1, h2⟩ := chk_zero h
 exact ⟨_, h1, by rw [← h1]; exact h2⟩
end Go.Proofs.YtdhdfcjpeflinaaN
set_option linter.unusedVariables false
namespace Go.Proofs.YtdhdfcjpeflinaaN
open Go.RowKit Go.Proofs.Ytdhdfcjpeflinaa.All Go.Proofs.YtdhdfcjpeflinaaW.PrintWords Go.Proofs.YtdhdfcjpeflinaaW.PrintLast Go.Proofs.YtdhdfcjpeflinaaW.PrintMore
theorem shr_eq (x : Int) (s : Nat) (hs : s ≤ 64) : shr .u64 x (s : Int) = x / 2 ^ s := by
 unfold shr
 rw [Int.toNat_natCast, show min s IntKind.u64.bits = s from Nat.min_eq_left hs]
end Go.Proofs.YtdhdfcjpeflinaaN
set_option linter.unusedVariables false
namespace Go.Proofs.YtdhdfcjpeflinaaN
open Go.RowKit Go.Proofs.Ytdhdfcjpeflinaa.All Go.Proofs.YtdhdfcjpeflinaaW.PrintWords Go.Proofs.YtdhdfcjpeflinaaW.PrintLast Go.Proofs.YtdhdfcjpeflinaaW.PrintMore
end Go.Proofs.YtdhdfcjpeflinaaN
set_option linter.unusedVariables false
namespace Go.Proofs.YtdhdfcjpeflinaaN
open Go.RowKit Go.Proofs.Ytdhdfcjpeflinaa.All Go.Proofs.YtdhdfcjpeflinaaW.PrintWords Go.Proofs.YtdhdfcjpeflinaaW.PrintLast Go.Proofs.YtdhdfcjpeflinaaW.PrintMore
end Go.Proofs.YtdhdfcjpeflinaaN
set_option linter.unusedVariables false
namespace Go.Proofs.YtdhdfcjpeflinaaN
open Go.RowKit Go.Proofs.Ytdhdfcjpeflinaa.All Go.Proofs.YtdhdfcjpeflinaaW.PrintWords Go.Proofs.YtdhdfcjpeflinaaW.PrintLast Go.Proofs.YtdhdfcjpeflinaaW.PrintMore
end Go.Proofs.YtdhdfcjpeflinaaN
set_option linter.unusedVariables false
namespace Go.Proofs.YtdhdfcjpeflinaaN
open Go.RowKit Go.Proofs.Ytdhdfcjpeflinaa.All Go.Proofs.YtdhdfcjpeflinaaW.PrintWords Go.Proofs.YtdhdfcjpeflinaaW.PrintLast Go.Proofs.YtdhdfcjpeflinaaW.PrintMore
theorem drop_succ (B : Int) (l : List Int) (i : Nat) (h : i < l.length) : vB B (l.drop i) = rd l (i : Int) + B * vB B (l.drop (i + 1)) := by
 rw [List.drop_eq_getElem_cons h, vB_cons, rd_get l i h]
theorem drop_set (l : List Int) (i : Nat) (x : Int) : (l.set i x).drop (i + 1) = l.drop (i + 1) := by
 apply List.ext_getElem?
 intro j
 rw [List.getElem?_drop, List.getElem?_drop, List.getElem?_set_ne (by omega)]
end Go.Proofs.YtdhdfcjpeflinaaN
set_option linter.unusedVariables false
namespace Go.Proofs.YtdhdfcjpeflinaaN
open Go.RowKit Go.Proofs.Ytdhdfcjpeflinaa.All Go.Proofs.YtdhdfcjpeflinaaW.PrintWords Go.Proofs.YtdhdfcjpeflinaaW.PrintLast Go.Proofs.YtdhdfcjpeflinaaW.PrintMore
end Go.Proofs.YtdhdfcjpeflinaaN
set_option linter.unusedVariables false
namespace Go.Proofs.YtdhdfcjpeflinaaN
open Go.RowKit Go.Proofs.Ytdhdfcjpeflinaa.All Go.Proofs.YtdhdfcjpeflinaaW.PrintWords Go.Proofs.YtdhdfcjpeflinaaW.PrintLast Go.Proofs.YtdhdfcjpeflinaaW.PrintMore
theorem nat_empty {n : Nat} : (nat n).toList = ([] : List UInt8) ↔ n = 0 := by rw [toList_nil, nat_size_zero]
end Go.Proofs.YtdhdfcjpeflinaaN
set_option linter.unusedVariables false
namespace Go.Proofs.YtdhdfcjpeflinaaN
open Go.RowKit Go.Proofs.Ytdhdfcjpeflinaa.All Go.Proofs.YtdhdfcjpeflinaaW.PrintWords Go.Proofs.YtdhdfcjpeflinaaW.PrintLast Go.Proofs.YtdhdfcjpeflinaaW.PrintMore
theorem len_mul (m n : Nat) : (d64 (m * n)).length ≤ (d64 m).length + (d64 n).length := by
 apply dgs_len
 have h1 := dgs_lt 18446744073709551614 m
 have h2 := dgs_lt 18446744073709551614 n
 rw [Nat.pow_add]
 exact Nat.lt_of_le_of_lt (Nat.mul_le_mul_right _ (Nat.le_of_lt h1)) (Nat.mul_lt_mul_of_pos_left h2 (Nat.lt_of_le_of_lt (Nat.zero_le _) h1))
theorem d64_one : d64 1 = [1] := by
 unfold d64
 rw [dgs_pos _ _ (by decide), show 1 / (18446744073709551614 + 2) = 0 from rfl, dgs_zero]
 rfl
theorem wraps_i64 (n : Int) (h0 : 0 ≤ n) (h1 : n < 2 ^ 63) : IntKind.i64.wrap n = n := by rw [IntKind.wrap_i64]; omega
theorem odd_bit (e : Nat) (h : e < 9223372036854775808) : Go.bits .and .i64 (e : Int) 1 = ((e % 2 : Nat) : Int) := by
 have := bits_mask .i64 63 (by decide) wraps_i64 1 (by decide) (e : Int) (by omega) (by omega)
 have e1 : (2 : Int) ^ 1 - 1 = 1 := rfl
 rw [e1] at this
 rw [this]
 omega
theorem NatPow_l0 : ∀ (e A X : Nat), e < 9223372036854775808 → (d64 A).length + 2 * e * (d64 X).length ≤ 1000000000000 → (d64 X).length ≤ 1000000000000 → Ev (fun k => exact_NatPow.l0 k (e : Int) (d64 A) (d64 X)) (nat (A * X ^ e)) := by
 intro e
 induction e using Nat.strongRecOn with
 | _ e ih =>
  intro A X he hl hx
  by_cases h : e = 0
  ·subst h
   have p := pack_ev (d64_dig A) (by omega)
   rw [d64_val, Int.toNat_natCast] at p
   rw [Nat.pow_zero, Nat.mul_one]
   refine Ev.step (f := fun k => (exact_pack.f k (d64 A)).bind fun t => some t) (fun k => ?_) (Ev.bind p (Ev.now _))
   simp only [exact_NatPow.l0]
   rw [if_neg (by decide)]
  ·have c1 : (e : Int) > 0 := by omega
   have hb := odd_bit e he
   have e2 : (e : Int) / 2 = ((e / 2 : Nat) : Int) := by omega
   have lXX := len_mul X X
   have lAX := len_mul A X
   have hX : (d64 X).length ≤ e * (d64 X).length := Nat.le_mul_of_pos_left _ (Nat.pos_of_ne_zero h)
   have h2 : 2 * e * (d64 X).length = 2 * (e * (d64 X).length) := Nat.mul_assoc _ _ _
   have hhalf : 2 * (e / 2) * (d64 (X * X)).length ≤ 4 * (e / 2 * (d64 X).length) := by
    have := Nat.mul_le_mul_left (2 * (e / 2)) lXX
    have e3 : 2 * (e / 2) * ((d64 X).length + (d64 X).length) = 4 * (e / 2 * (d64 X).length) := by
     rw [Nat.mul_add, Nat.mul_assoc]
     omega
    omega
   have hcut : 2 * (e / 2 * (d64 X).length) + e % 2 * (d64 X).length = e * (d64 X).length := by
    rw [← Nat.mul_assoc, ← Nat.add_mul]
    congr 1
    omega
   rw [h2] at hl
   have sq := mulWords_d64 (m := X) (n := X) (by omega) (by omega)
   by_cases ho : e % 2 = 1
   ·rw [ho, Nat.one_mul] at hcut
    have ax := mulWords_d64 (m := A) (n := X) (by omega) (by omega)
    have hp : A * X ^ e = A * X * (X * X) ^ (e / 2) := by
     have : X ^ e = X * (X * X) ^ (e / 2) := by
      rw [← Nat.pow_two, ← Nat.pow_mul, Nat.mul_comm X, ← Nat.pow_succ]
      congr 1
      omega
     rw [this, Nat.mul_assoc]
    rw [hp]
    refine Ev.step (f := fun k => (exact_mulWords.f k (d64 A) (d64 X)).bind fun t301 => ((exact_mulWords.f k (d64 X) (d64 X)).bind fun t304 => exact_NatPow.l0 k ((e / 2 : Nat) : Int) t301 t304)) (fun k => ?_) (Ev.bind ax (Ev.bind sq (ih (e / 2) (by omega) _ _ (by omega) (by omega) (by omega))))
    simp only [exact_NatPow.l0, hb, e2]
    rw [if_pos c1, if_pos (by rw [ho]; rfl)]
   ·have ho' : e % 2 = 0 := by omega
    rw [ho', Nat.zero_mul, Nat.add_zero] at hcut
    have hp : A * X ^ e = A * (X * X) ^ (e / 2) := by
     have : X ^ e = (X * X) ^ (e / 2) := by
      rw [← Nat.pow_two, ← Nat.pow_mul]
      congr 1
      omega
     rw [this]
    rw [hp]
    refine Ev.step (f := fun k => (exact_mulWords.f k (d64 X) (d64 X)).bind fun t307 => exact_NatPow.l0 k ((e / 2 : Nat) : Int) (d64 A) t307) (fun k => ?_) (Ev.bind sq (ih (e / 2) (by omega) _ _ (by omega) (by omega) (by omega)))
    simp only [exact_NatPow.l0, hb, e2]
    rw [if_pos c1, if_neg (by rw [ho']; decide)]
theorem NatPow_ev {m e : Nat} (hm : (nat m).size ≤ 100000) (he : e ≤ 100000) : Ev (fun k => exact_NatPow.f k (nat m) (e : Int)) (nat (m ^ e)) := by
 have lm := words_len m
 refine Ev.bind (words_nat (by omega)) ?_
 have h1 : 2 * e * (d64 m).length ≤ 200000 * 100000 := Nat.mul_le_mul (by omega) (by omega)
 have := NatPow_l0 e 1 m (by omega) (by rw [d64_one]; show 1 + _ ≤ _; omega) (by omega)
 rw [d64_one, Nat.one_mul] at this
 exact this
def bl (n : Nat) : Nat := if n = 0 then 0 else n.log2 + 1
theorem bl_lt (n : Nat) : n < 2 ^ bl n := by
 unfold bl
 split
 ·subst_vars; decide
 ·exact Nat.lt_log2_self
theorem bl_le {n : Nat} (h : n ≠ 0) : 1 ≤ bl n ∧ 2 ^ (bl n - 1) ≤ n := by
 unfold bl
 rw [if_neg h]
 exact ⟨by omega, by simpa using Nat.log2_self_le h⟩
theorem bl_unique {n b : Nat} (h : n ≠ 0) (hb : 1 ≤ b) (h1 : 2 ^ (b - 1) ≤ n) (h2 : n < 2 ^ b) : bl n = b := by
 obtain ⟨g1, g2⟩ := bl_le h
 have g3 := bl_lt n
 have k1 : b - 1 < bl n := (Nat.pow_lt_pow_iff_right (by decide : 1 < 2)).1 (Nat.lt_of_le_of_lt h1 g3)
 have k2 : bl n - 1 < b := (Nat.pow_lt_pow_iff_right (by decide : 1 < 2)).1 (Nat.lt_of_le_of_lt g2 h2)
 omega
theorem bl_size {n : Nat} : bl n ≤ 8 * (nat n).size := by
 by_cases h : n = 0
 ·subst h; simp [bl]
 ·have h1 := nat_lt_size n
  obtain ⟨g1, g2⟩ := bl_le h
  have e : 256 ^ (nat n).size = 2 ^ (8 * (nat n).size) := by rw [Nat.pow_mul]
  rw [e] at h1
  have k2 : bl n - 1 < 8 * (nat n).size := (Nat.pow_lt_pow_iff_right (by decide : 1 < 2)).1 (Nat.lt_of_le_of_lt g2 h1)
  omega
theorem NatBits_eq {n : Nat} (hn : (nat n).size ≤ 1099511627776) : exact_NatBits.f (nat n) = some (bl n : Int) := by
 unfold exact_NatBits.f
 by_cases h : n = 0
 ·rw [if_pos (nat_empty.2 h), h]
  rfl
 ·have hp : 0 < (nat n).size := Nat.pos_of_ne_zero fun h0 => h (nat_size_zero.1 h0)
  have hl := nat_size n
  rw [if_neg (fun h0 => h (nat_empty.1 h0)), if_pos (by omega)]
  have ht : bt (nat n) 0 = rd (d8 n) (((nat n).size - 1 : Nat) : Int) := by
   have := rd_reverse (d8 n) 0 (by omega)
   rw [bt_rd, nat_bytes]
   rw [show (d8 n).length - 1 - 0 = (nat n).size - 1 by omega] at this
   exact this
  have hne : bt (nat n) 0 ≠ 0 := by
   rcases nat_wf n with h1 | h1
   ·omega
   ·exact h1
  obtain ⟨b0, b1⟩ := bt_range (nat n) 0
  obtain ⟨t, ht2⟩ := Int.eq_ofNat_of_zero_le b0
  rw [ht2] at ht hne b1 ⊢
  have hv := vB_all 256 (d8 n) ((nat n).size - 1 + 1) (by omega)
  rw [take_succ, d8_val, ← ht] at hv
  have lo0 := vB_nonneg (show (0 : Int) ≤ 256 by decide) (Dig_take (d8_dig n) ((nat n).size - 1))
  have lo1 := vB_lt (show (0 : Int) < 256 by decide) (Dig_take (d8_dig n) ((nat n).size - 1))
  rw [List.length_take, Nat.min_eq_left (by omega)] at lo1
  obtain ⟨l, hlo⟩ := Int.eq_ofNat_of_zero_le lo0
  rw [hlo] at hv lo1
  have hv' : l + 256 ^ ((nat n).size - 1) * t = n := by
   apply Int.ofNat_inj.1
   rw [Int.natCast_add, Int.natCast_mul, Int.natCast_pow]
   exact hv
  have lo1' : l < 256 ^ ((nat n).size - 1) := by
   apply Int.ofNat_lt.1
   rw [Int.natCast_pow]
   exact lo1
  obtain ⟨h1, h2, h3⟩ := Lib.bitLenAux_bounds 64 t (by omega) (by omega)
  have h4 : Lib.bitLen t ≤ 8 := Lib.bitLen_le t 8 (by decide) (by omega)
  have eb : Lib.bitLenAux 64 t = Lib.bitLen t := rfl
  rw [eb] at h1 h2 h3
  generalize hL : Lib.bitLen t = L at *
  have hb : bl n = 8 * ((nat n).size - 1) + L := by
   have e8 : 256 ^ ((nat n).size - 1) = 2 ^ (8 * ((nat n).size - 1)) := by rw [Nat.pow_mul]
   rw [e8] at hv' lo1'
   apply bl_unique h (by omega)
   ·rw [show 8 * ((nat n).size - 1) + L - 1 = 8 * ((nat n).size - 1) + (L - 1) by omega, Nat.pow_add]
    have := Nat.mul_le_mul_left (2 ^ (8 * ((nat n).size - 1))) h2
    omega
   ·rw [Nat.pow_add]
    have := Nat.mul_le_mul_left (2 ^ (8 * ((nat n).size - 1))) (show t + 1 ≤ 2 ^ L by omega)
    rw [Nat.mul_add, Nat.mul_one] at this
    omega
  unfold bits_Len8.f
  rw [if_pos (by omega), Option.bind_some, Int.toNat_natCast, hL, hb]
  clear hv' lo1' hv lo1 h2 h3 hb
  rw [w64 (x := ((nat n).size : Int) - 1) (by omega) (by omega), w64 (x := 8 * (((nat n).size : Int) - 1)) (by omega) (by omega), w64 (by omega) (by omega)]
  congr 1
  omega
end Go.Proofs.YtdhdfcjpeflinaaN
set_option linter.unusedVariables false
namespace Go.Proofs.YtdhdfcjpeflinaaN
open Go.RowKit Go.Proofs.Ytdhdfcjpeflinaa.All Go.Proofs.YtdhdfcjpeflinaaW.PrintWords Go.Proofs.YtdhdfcjpeflinaaW.PrintLast Go.Proofs.YtdhdfcjpeflinaaW.PrintMore
theorem str_nat {l : List Int} {n : Nat} (hd : Dig 256 l) (ht : 0 < l.length → rd l 0 ≠ 0) (hv : vB 256 l.reverse = n) : strOfNums l = nat n := by
 have : l.reverse = d8 n := by
  refine d8_unique (Dig_reverse hd) (fun hp => ?_) hv
  rw [List.length_reverse] at hp ⊢
  have := rd_reverse l (l.length - 1) (by omega)
  rw [show l.length - 1 - (l.length - 1) = 0 by omega] at this
  rw [this]
  exact ht hp
 unfold nat
 rw [← this, List.reverse_reverse]
theorem NatTwo_eq {b : Nat} (hb : b ≤ 1099511627776) : exact_NatTwo.f (b : Int) = some (nat (2 ^ b)) := by
 have hr : b % 8 < 8 := Nat.mod_lt _ (by decide)
 have e1 : Int.tdiv (b : Int) 8 = ((b / 8 : Nat) : Int) := by rw [Int.tdiv_eq_ediv_of_nonneg (by omega)]; omega
 have e2 : Int.tmod (b : Int) 8 = ((b % 8 : Nat) : Int) := by rw [Int.tmod_eq_emod_of_nonneg (by omega)]; omega
 have e3 : wrap64 ((b / 8 : Nat) : Int) = ((b / 8 : Nat) : Int) := w64 (by omega) (by omega)
 have e4 : wrap64 (((b / 8 : Nat) : Int) + 1) = ((b / 8 + 1 : Nat) : Int) := by rw [w64 (by omega) (by omega)]; omega
 have e5 : shl .u8 1 ((b % 8 : Nat) : Int) = ((2 ^ (b % 8) : Nat) : Int) := by
  have : b % 8 = 0 ∨ b % 8 = 1 ∨ b % 8 = 2 ∨ b % 8 = 3 ∨ b % 8 = 4 ∨ b % 8 = 5 ∨ b % 8 = 6 ∨ b % 8 = 7 := by omega
  rcases this with h | h | h | h | h | h | h | h <;> rw [h] <;> decide
 have hx : 1 ≤ 2 ^ (b % 8) ∧ 2 ^ (b % 8) < 256 := by
  have : b % 8 = 0 ∨ b % 8 = 1 ∨ b % 8 = 2 ∨ b % 8 = 3 ∨ b % 8 = 4 ∨ b % 8 = 5 ∨ b % 8 = 6 ∨ b % 8 = 7 := by omega
  rcases this with h | h | h | h | h | h | h | h <;> rw [h] <;> decide
 unfold exact_NatTwo.f
 rw [e1, e2, e3, e4, if_pos (Int.natCast_nonneg _), Int.toNat_natCast, if_pos (by omega), Option.bind_some, if_pos (Int.natCast_nonneg _), if_pos (by rw [List.length_replicate]; omega), e5]
 congr 1
 have hs : (List.replicate (b / 8 + 1) (0 : Int)).set (0 : Int).toNat ((2 ^ (b % 8) : Nat) : Int) = ((2 ^ (b % 8) : Nat) : Int) :: List.replicate (b / 8) 0 := by
  rw [List.replicate_succ]
  rfl
 rw [hs]
 apply str_nat
 ·exact Dig_cons.2 ⟨⟨by omega, by omega⟩, Dig_replicate (by decide) _⟩
 ·intro _
  show ((2 ^ (b % 8) : Nat) : Int) ≠ 0
  omega
 ·rw [List.reverse_cons, List.reverse_replicate, vB_append, vB_replicate, List.length_replicate]
  have : (2 : Nat) ^ b = 256 ^ (b / 8) * 2 ^ (b % 8) := by
   have e8 : (256 : Nat) ^ (b / 8) = 2 ^ (8 * (b / 8)) := by rw [Nat.pow_mul]
   rw [e8, ← Nat.pow_add, Nat.div_add_mod]
  rw [this, Int.natCast_mul, Int.natCast_pow]
  simp [vB]
theorem NatRoot_l0 {n K : Nat} (hK : 1 ≤ K) (hK1 : K ≤ 4096) (hn : (nat n).size ≤ 4096) : ∀ (c low : Nat), c ≤ bl n + 1 → low ^ K ≤ n → n < (low + 2 ^ c) ^ K → ∃ r, r ^ K ≤ n ∧ n < (r + 1) ^ K ∧ Ev (fun k => exact_NatRoot.l0 k (nat n) (K : Int) (nat low) ((c : Int) - 1)) (nat r) := by
 intro c
 induction c with
 | zero =>
  intro low _ h1 h2
  refine ⟨low, h1, h2, Ev.step (f := fun _ => some (nat low)) (fun k => ?_) (Ev.now _)⟩
  simp only [exact_NatRoot.l0]
  rw [if_neg (by decide)]
 | succ c ih =>
  intro low hc h1 h2
  have e0 : ((c + 1 : Nat) : Int) - 1 = (c : Int) := by omega
  have hbl := bl_size (n := n)
  have e1 : wrap64 ((c : Int) - 1) = (c : Int) - 1 := w64 (by omega) (by omega)
  have hlow : low ≤ n := Nat.le_trans (Nat.le_self_pow (by omega) low) h1
  have hs1 := size_mono hlow
  have hs2 : (nat (2 ^ c)).size ≤ (nat n).size + 1 := by
   apply nat_size_le.2
   have g : (256 : Nat) ^ ((nat n).size + 1) = 2 ^ (8 * ((nat n).size + 1)) := by rw [Nat.pow_mul]
   rw [g]
   exact Nat.pow_lt_pow_right (by decide) (by omega)
  have hs3 := size_add (m := low) (n := 2 ^ c)
  have t1 := NatTwo_eq (b := c) (by omega)
  have t2 := NatAdd_ev (m := low) (n := 2 ^ c) (by omega) (by omega)
  have t3 := NatPow_ev (m := low + 2 ^ c) (e := K) (by omega) (by omega)
  have t4 := NatCmp_ev ((low + 2 ^ c) ^ K) n
  rw [e0]
  have hadd : low + 2 ^ (c + 1) = low + 2 ^ c + 2 ^ c := by rw [Nat.pow_succ]; omega
  by_cases hle : (low + 2 ^ c) ^ K ≤ n
  ·rw [hadd] at h2
   obtain ⟨r, r1, r2, r3⟩ := ih (low + 2 ^ c) (by omega) hle h2
   have hcmp : cmpN ((low + 2 ^ c) ^ K) n ≤ 0 := by
    unfold cmpN
    split
    ·decide
    ·rw [if_pos (by omega)]; decide
   refine ⟨r, r1, r2, Ev.step (f := fun k => (exact_NatAdd.f k (nat low) (nat (2 ^ c))).bind fun t344 => ((exact_NatPow.f k t344 (K : Int)).bind fun t345 => ((exact_NatCmp.f k t345 (nat n)).bind fun t346 => (if t346 ≤ 0 then (exact_NatRoot.l0 k (nat n) (K : Int) t344 ((c : Int) - 1)) else (exact_NatRoot.l0 k (nat n) (K : Int) (nat low) ((c : Int) - 1)))))) (fun k => ?_) (Ev.bind t2 (Ev.bind t3 (Ev.bind t4 (Ev.congr (fun k => if_pos hcmp) r3))))⟩
   simp only [exact_NatRoot.l0, e1]
   rw [if_pos (by omega), t1, Option.bind_some]
  ·obtain ⟨r, r1, r2, r3⟩ := ih low (by omega) h1 (by omega)
   have hcmp : ¬ cmpN ((low + 2 ^ c) ^ K) n ≤ 0 := by
    unfold cmpN
    rw [if_neg (by omega), if_neg (by omega)]
    decide
   refine ⟨r, r1, r2, Ev.step (f := fun k => (exact_NatAdd.f k (nat low) (nat (2 ^ c))).bind fun t344 => ((exact_NatPow.f k t344 (K : Int)).bind fun t345 => ((exact_NatCmp.f k t345 (nat n)).bind fun t346 => (if t346 ≤ 0 then (exact_NatRoot.l0 k (nat n) (K : Int) t344 ((c : Int) - 1)) else (exact_NatRoot.l0 k (nat n) (K : Int) (nat low) ((c : Int) - 1)))))) (fun k => ?_) (Ev.bind t2 (Ev.bind t3 (Ev.bind t4 (Ev.congr (fun k => if_neg hcmp) r3))))⟩
   simp only [exact_NatRoot.l0, e1]
   rw [if_pos (by omega), t1, Option.bind_some]
theorem NatRoot_ev {n K : Nat} (hK : 1 ≤ K) (hK1 : K ≤ 4096) (hn : (nat n).size ≤ 4096) : ∃ r, r ^ K ≤ n ∧ n < (r + 1) ^ K ∧ Ev (fun k => exact_NatRoot.f k (nat n) (K : Int)) (nat r) := by
 have hbl := bl_size (n := n)
 have hb0 : (bl n + K - 1) / K ≤ bl n := by
  rcases Nat.eq_zero_or_pos (bl n) with h | h
  ·rw [h, Nat.zero_add, Nat.div_eq_of_lt (by omega)]
   exact Nat.le_refl _
  ·apply Nat.div_le_of_le_mul
   have : bl n + K ≤ K * bl n + 1 := by
    obtain ⟨j, rfl⟩ : ∃ j, K = j + 1 := ⟨K - 1, by omega⟩
    rw [Nat.add_mul, Nat.one_mul]
    have := Nat.le_mul_of_pos_right j h
    omega
   omega
 have hbK : bl n ≤ (bl n + K - 1) / K * K := by
  have h1 := Nat.div_add_mod (bl n + K - 1) K
  have h2 := Nat.mod_lt (bl n + K - 1) (show K > 0 by omega)
  rw [Nat.mul_comm] at h1
  omega
 generalize hB : (bl n + K - 1) / K = B at *
 have h2 : n < (0 + 2 ^ (B + 1)) ^ K := by
  rw [Nat.zero_add, ← Nat.pow_mul]
  refine Nat.lt_of_lt_of_le (bl_lt n) (Nat.pow_le_pow_right (by decide) ?_)
  rw [Nat.add_mul]
  omega
 obtain ⟨r, r1, r2, r3⟩ := NatRoot_l0 hK hK1 hn (B + 1) 0 (by omega) (by rw [Nat.zero_pow (by omega)]; exact Nat.zero_le _) h2
 refine ⟨r, r1, r2, Ev.congr (fun k => ?_) r3⟩
 unfold exact_NatRoot.f
 clear h2 r1 r2 r3
 have c0 : (nat n).size ≤ 1099511627776 := by omega
 have c1 : ¬ (K : Int) = 0 := by omega
 have c2 : (B : Int) = ((B + 1 : Nat) : Int) - 1 := by omega
 have e1 : wrap64 ((bl n : Int) + (K : Int)) = ((bl n + K : Nat) : Int) := by rw [w64 (by omega) (by omega)]; omega
 have e2 : wrap64 (((bl n + K : Nat) : Int) - 1) = ((bl n + K - 1 : Nat) : Int) := by clear e1; rw [w64 (by omega) (by omega)]; omega
 have e3 : wrap64 (Int.tdiv ((bl n + K - 1 : Nat) : Int) (K : Int)) = (B : Int) := by
  clear e1 e2
  rw [Int.tdiv_eq_ediv_of_nonneg (by omega), ← Int.natCast_ediv, hB, w64 (by omega) (by omega)]
 rw [NatBits_eq c0, Option.bind_some, if_neg c1, e1, e2, e3, nat_zero, c2]
theorem root_unique {n K r s : Nat} (hr : r ^ K ≤ n) (hr' : n < (r + 1) ^ K) (hs : s ^ K ≤ n) (hs' : n < (s + 1) ^ K) : r = s := by
 rcases Nat.lt_trichotomy r s with h | h | h
 ·have := Nat.pow_le_pow_left (show r + 1 ≤ s by omega) K
  omega
 ·exact h
 ·have := Nat.pow_le_pow_left (show s + 1 ≤ r by omega) K
  omega
end Go.Proofs.YtdhdfcjpeflinaaN
set_option linter.unusedVariables false
namespace Go.Proofs.YtdhdfcjpeflinaaN
open Go.RowKit Go.Proofs.Ytdhdfcjpeflinaa.All Go.Proofs.YtdhdfcjpeflinaaW.PrintWords Go.Proofs.YtdhdfcjpeflinaaW.PrintLast Go.Proofs.YtdhdfcjpeflinaaW.PrintMore
abbrev B32 : Int := 4294967296
def d32 (n : Nat) : List Int := dgs 4294967294 n
theorem d32_dig (n : Nat) : Dig B32 (d32 n) := (dgs_spec 4294967294 n).1
theorem d32_trim (n : Nat) : Trim (d32 n) := (dgs_spec 4294967294 n).2.1
theorem d32_val (n : Nat) : vB B32 (d32 n) = n := (dgs_spec 4294967294 n).2.2
theorem d32_unique {l : List Int} {n : Nat} (hl : Dig B32 l) (ht : Trim l) (hv : vB B32 l = n) : l = d32 n := dgs_unique hl ht hv
theorem d32_zero : d32 0 = [] := dgs_zero _
theorem limbs_len (n : Nat) : (d32 n).length ≤ ((nat n).size + 3) / 4 := by
 apply dgs_len
 have h1 := nat_lt_size n
 have h2 : 256 ^ (nat n).size ≤ 256 ^ (4 * (((nat n).size + 3) / 4)) := Nat.pow_le_pow_right (by decide) (by omega)
 rw [Nat.pow_mul] at h2
 exact Nat.lt_of_lt_of_le h1 h2
theorem rtrim_ev : ∀ (n : Nat) (l : List Int), l.length = n → n < 9223372036854775808 → Dig B32 l → Ev (fun k => galoisref01_trim.f k l) (d32 (vB B32 l).toNat) := by
 intro n
 induction n with
 | zero =>
  intro l hl _ hd
  rw [List.eq_nil_of_length_eq_zero hl]
  refine Ev.step (f := fun _ => some []) (fun k => ?_) (by
   show Ev (fun _ => some []) (d32 0)
   rw [d32_zero]
   exact Ev.now _)
  simp [galoisref01_trim.f, galoisref01_trim.l0]
 | succ n ih =>
  intro l hl hn hd
  have hv := vB_nonneg (by decide) hd
  have e1 : wrap64 ((l.length : Int) - 1) = (n : Int) := by rw [w64 (by omega) (by omega)]; omega
  have hvs := take_succ B32 l n
  rw [vB_all _ _ _ (by omega)] at hvs
  by_cases hz : rd l (n : Int) = 0
  ·rw [hz, Int.mul_zero, Int.add_zero] at hvs
   rw [hvs]
   refine Ev.step (f := fun k => galoisref01_trim.f k (l.take n)) (fun k => ?_) (ih _ (by rw [List.length_take]; omega) (by omega) (Dig_take hd _))
   simp only [galoisref01_trim.f, galoisref01_trim.l0, e1]
   rw [if_pos (by omega), if_pos (by omega), if_pos (by omega), if_pos hz, if_pos (by omega), Int.toNat_natCast]
  ·have : l = d32 (vB B32 l).toNat := d32_unique hd (fun _ => by rw [hl, Nat.add_sub_cancel]; exact hz) (by omega)
   rw [← this]
   refine Ev.step (f := fun _ => some l) (fun k => ?_) (Ev.now _)
   simp only [galoisref01_trim.f, galoisref01_trim.l0, e1]
   rw [if_pos (by omega), if_pos (by omega), if_pos (by omega), if_neg hz]
theorem trimV_eq : ∀ (k : Nat) (l : List Int), galoisref01_trimV.l0 k l = galoisref01_trim.l0 k l := by
 intro k
 induction k with
 | zero => intro l; rfl
 | succ k ih => intro l; simp only [galoisref01_trimV.l0, galoisref01_trim.l0, ih]
theorem rtrimV_ev {l : List Int} (hn : l.length < 9223372036854775808) (hd : Dig B32 l) : Ev (fun k => galoisref01_trimV.f k l) (d32 (vB B32 l).toNat) :=
 Ev.congr (fun k => trimV_eq k l) (rtrim_ev _ l rfl hn hd)
def win (s : ByteArray) (a b : Nat) : Int := vB 256 (((bytesOf s).take b).drop a).reverse
theorem win_self (s : ByteArray) (a : Nat) : win s a a = 0 := by
 unfold win
 rw [List.drop_of_length_le (by rw [List.length_take]; omega)]
 rfl
theorem win_succ (s : ByteArray) (a b : Nat) (hab : a ≤ b) (hb : b < s.size) : win s a (b + 1) = win s a b * 256 + bt s (b : Int) := by
 unfold win
 rw [List.take_succ_eq_append_getElem (by rw [bytesOf_length]; exact hb), List.drop_append_of_le_length (by rw [List.length_take, bytesOf_length]; omega), List.reverse_append, List.reverse_singleton, List.singleton_append, vB_cons, bt_rd, rd_get _ b (by rw [bytesOf_length]; exact hb)]
 omega
theorem win_range (s : ByteArray) (a b : Nat) (hab : a ≤ b) (hb : b ≤ s.size) : 0 ≤ win s a b ∧ win s a b < 256 ^ (b - a) := by
 have hd : Dig 256 (((bytesOf s).take b).drop a).reverse := Dig_reverse (Dig_drop (Dig_take (bytesOf_dig s) _) _)
 refine ⟨vB_nonneg (by decide) hd, ?_⟩
 have := vB_lt (by decide) hd
 rw [List.length_reverse, List.length_drop, List.length_take, bytesOf_length, Nat.min_eq_left hb] at this
 exact this
theorem win_join (s : ByteArray) (a b c : Nat) (hab : a ≤ b) (hbc : b ≤ c) (hc : c ≤ s.size) : win s a c = win s b c + 256 ^ (c - b) * win s a b := by
 obtain ⟨d, rfl⟩ : ∃ d, c = b + d := ⟨c - b, by omega⟩
 induction d with
 | zero =>
  rw [Nat.add_zero, win_self, Nat.sub_self, Int.pow_zero, Int.one_mul, Int.zero_add]
 | succ d ih =>
  rw [← Nat.add_assoc, win_succ s a _ (by omega) (by omega), win_succ s b _ (by omega) (by omega), ih (by omega) (by omega)]
  rw [show b + d + 1 - b = (b + d - b) + 1 by omega, Int.pow_succ, Int.mul_right_comm]
  generalize 256 ^ (b + d - b) * win s a b = X
  omega
theorem win_all (s : ByteArray) : win s 0 s.size = bval s := by
 unfold win bval
 rw [List.drop_zero, List.take_of_length_le (by rw [bytesOf_length]; exact Nat.le_refl _)]
theorem limbs_l1 (s : ByteArray) (hs : s.size ≤ 1099511627776) (out : List Int) (lo : Nat) (hlo : out.length ≤ 1099511627776) (e : Nat) (he : e ≤ s.size) (hle : lo ≤ e) (h4 : e ≤ lo + 4) (r : List Int)
  (next : Ev (fun k => galoisref01_limbs.l0 k s (out ++ [win s lo e]) ((e : Int) - 4)) r) : ∀ (d i : Nat), i + d = e → lo ≤ i → Ev (fun k => galoisref01_limbs.l1 k s out (e : Int) (win s lo i) (i : Int)) r := by
 intro d
 induction d with
 | zero =>
  intro i hi hl
  have hi : i = e := by omega
  subst hi
  have e1 : wrap64 ((i : Int) - 4) = (i : Int) - 4 := w64 (by omega) (by omega)
  refine Ev.step (fun k => ?_) next
  simp only [galoisref01_limbs.l1, e1]
  rw [if_neg (Int.lt_irrefl _), if_pos (by omega)]
 | succ d ih =>
  intro i hi hl
  have c1 : (i : Int) < (e : Int) := by omega
  have c2 : (i : Int) < (s.size : Int) := by omega
  have e1 : wrap64 ((i : Int) + 1) = ((i + 1 : Nat) : Int) := by rw [w64 (by omega) (by omega)]; omega
  obtain ⟨w0, w1⟩ := win_range s lo i hl (by omega)
  have w2 : win s lo i < 16777216 := by
   refine Int.lt_of_lt_of_le w1 ?_
   exact pow_le_pow (B := 256) (by decide) (show i - lo ≤ 3 by omega)
  obtain ⟨b0, b1⟩ := bt_range s (i : Int)
  have e2 : IntKind.u64.wrap (IntKind.u64.wrap (win s lo i * 256) + IntKind.u64.wrap (bt s (i : Int))) = win s lo (i + 1) := by
   rw [win_succ s lo i hl (by omega), u64 (x := win s lo i * 256) (by omega) (by omega), u64 (x := bt s (i : Int)) (by omega) (by omega), u64 (by omega) (by omega)]
  refine Ev.step (f := fun k => galoisref01_limbs.l1 k s out (e : Int) (win s lo (i + 1)) ((i + 1 : Nat) : Int)) (fun k => ?_) (ih (i + 1) (by omega) (by omega))
  simp only [galoisref01_limbs.l1, e1, e2]
  rw [if_pos c1, if_pos (Int.natCast_nonneg _), if_pos c2]
theorem limbs_end (s : ByteArray) (out : List Int) (hd : Dig B32 out) (hl : out.length ≤ 1099511627776) (hv : vB B32 out = bval s) (x : Int) (hx : ¬ x > 0) : Ev (fun k => galoisref01_limbs.l0 k s out x) (d32 (bval s).toNat) := by
 have h := rtrim_ev out.length out rfl (by omega) hd
 rw [hv] at h
 refine Ev.step (f := fun k => (galoisref01_trim.f k out).bind fun t => some t) (fun k => ?_) (Ev.bind h (Ev.now _))
 simp only [galoisref01_limbs.l0]
 rw [if_neg hx]
theorem limbs_l0 (s : ByteArray) (hs : s.size ≤ 1099511627776) : ∀ (e : Nat) (out : List Int), e ≤ s.size → 4 * out.length = s.size - e → Dig B32 out → vB B32 out = win s e s.size → Ev (fun k => galoisref01_limbs.l0 k s out (e : Int)) (d32 (bval s).toNat) := by
 intro e
 induction e using Nat.strongRecOn with
 | _ e ih =>
  intro out he hl hd hv
  by_cases h0 : e = 0
  ·subst h0
   exact limbs_end s out hd (by omega) (by rw [hv, win_all]) _ (by omega)
  ·have hmx : mx 0 (wrap64 ((e : Int) - 4)) = ((e - 4 : Nat) : Int) := by
    rw [w64 (by omega) (by omega)]
    unfold mx
    split <;> omega
   have hw := win_range s (e - 4) e (by omega) he
   have hw1 : win s (e - 4) e < B32 := by
    refine Int.lt_of_lt_of_le hw.2 ?_
    exact pow_le_pow (B := 256) (by decide) (show e - (e - 4) ≤ 4 by omega)
   have hd' : Dig B32 (out ++ [win s (e - 4) e]) := Dig_append hd (Dig_cons.2 ⟨⟨hw.1, hw1⟩, Dig_nil _⟩)
   have hpow : (B32 : Int) ^ out.length = 256 ^ (s.size - e) := by
    rw [← hl, Int.pow_mul]
    rfl
   have hv' : vB B32 (out ++ [win s (e - 4) e]) = win s (e - 4) s.size := by
    rw [vB_append, hpow, hv, win_join s (e - 4) e s.size (by omega) he (Nat.le_refl _)]
    simp [vB]
   refine Ev.step (f := fun k => galoisref01_limbs.l1 k s out (e : Int) (win s (e - 4) (e - 4)) ((e - 4 : Nat) : Int)) (fun k => ?_) (limbs_l1 s hs out (e - 4) (by omega) e he (by omega) (by omega) _ ?_ (e - (e - 4)) (e - 4) (by omega) (Nat.le_refl _))
   ·simp only [galoisref01_limbs.l0, hmx]
    rw [if_pos (by omega), win_self]
   ·by_cases h4 : e ≤ 4
    ·refine limbs_end s _ hd' (by rw [List.length_append]; simp; omega) ?_ _ (by omega)
     rw [hv', show e - 4 = 0 by omega, win_all]
    ·have := ih (e - 4) (by omega) (out ++ [win s (e - 4) e]) (by omega) (by rw [List.length_append]; simp; omega) hd' hv'
     rwa [show ((e - 4 : Nat) : Int) = (e : Int) - 4 by omega] at this
theorem limbs_ev (s : ByteArray) (hs : s.size ≤ 1099511627776) : Ev (fun k => galoisref01_limbs.f k s) (d32 (bval s).toNat) :=
 limbs_l0 s hs s.size [] (Nat.le_refl _) (by simp) (Dig_nil _) (by rw [win_self]; rfl)
theorem limbs_nat {n : Nat} (hs : (nat n).size ≤ 1099511627776) : Ev (fun k => galoisref01_limbs.f k (nat n)) (d32 n) := by
 have := limbs_ev (nat n) hs
 rwa [bval_nat, Int.toNat_natCast] at this
theorem d8_push {N x : Nat} (hx : x < 256) (h : N * 256 + x ≠ 0) : d8 (N * 256 + x) = (x : Int) :: d8 N := by
 unfold d8
 rw [dgs_pos _ _ h, show (N * 256 + x) % (254 + 2) = x by omega, show (N * 256 + x) / (254 + 2) = N by omega]
theorem rpack_byte {N x : Nat} (hx : x < 256) : (if (((d8 N).reverse.length : Int) > 0) then (d8 N).reverse ++ [(x : Int)] else if (x : Int) > 0 then (d8 N).reverse ++ [(x : Int)] else (d8 N).reverse) = (d8 (N * 256 + x)).reverse := by
 by_cases h : N * 256 + x = 0
 ·have hN : N = 0 := by omega
  have hx0 : x = 0 := by omega
  subst hN hx0
  have : d8 0 = [] := dgs_zero _
  rw [show 0 * 256 + 0 = 0 from rfl, this]
  simp
 ·rw [d8_push hx h, List.reverse_cons]
  by_cases h1 : ((d8 N).reverse.length : Int) > 0
  ·rw [if_pos h1]
  ·rw [if_neg h1, if_pos]
   have : N = 0 := by
    rcases Nat.eq_zero_or_pos N with h2 | h2
    ·exact h2
    ·exfalso
     have h3 : (nat N).size ≠ 0 := fun h4 => by have := nat_size_zero.1 h4; omega
     rw [nat_size] at h3
     rw [List.length_reverse] at h1
     omega
   omega
theorem rpack_l1 {l : List Int} {V : Nat} (hd : Dig B32 l) (hl : l.length ≤ 1099511627776) (hV : (nat V).size ≤ 4398046511104) {i H D : Nat} (hi : i < l.length) (hD : rd l (i : Int) = D) (hle : H * 4294967296 + D ≤ V) {r : ByteArray}
  (next : Ev (fun k => galoisref01_pack.l0 k l (d8 (H * 4294967296 + D)).reverse ((i : Int) - 1)) r) : ∀ (c N : Nat), c ≤ 4 → N = H * 256 ^ (4 - c) + D / 256 ^ c → Ev (fun k => galoisref01_pack.l1 k l (d8 N).reverse (i : Int) (8 * (c : Int) - 8)) r := by
 have hD32 : D < 4294967296 := by
  have h := (Dig_rd hd i hi).2
  rw [hD] at h
  exact Int.ofNat_lt.1 h
 intro c
 induction c with
 | zero =>
  intro N _ hN
  have hN : N = H * 4294967296 + D := by simpa using hN
  rw [hN]
  have e1 : wrap64 ((i : Int) - 1) = (i : Int) - 1 := w64 (by omega) (by omega)
  refine Ev.step (fun k => ?_) next
  simp only [galoisref01_pack.l1, e1]
  rw [if_neg (by decide)]
 | succ c ih =>
  intro N hc hN
  have hcase : c = 0 ∨ c = 1 ∨ c = 2 ∨ c = 3 := by omega
  have hNV : N ≤ V := by
   refine Nat.le_trans ?_ hle
   rw [hN]
   exact Nat.add_le_add (Nat.mul_le_mul_left H (Nat.pow_le_pow_right (show 0 < 256 by decide) (show 4 - (c + 1) ≤ 4 from Nat.sub_le _ _))) (Nat.div_le_self _ _)
  have hb : ∃ x : Nat, x < 256 ∧ (shr .u64 (rd l (i : Int)) (8 * ((c + 1 : Nat) : Int) - 8)) % 256 = (x : Int) ∧ N * 256 + x = H * 256 ^ (4 - c) + D / 256 ^ c := by
   refine ⟨D / 256 ^ c % 256, Nat.mod_lt _ (by decide), ?_, ?_⟩
   ·rw [show 8 * ((c + 1 : Nat) : Int) - 8 = ((8 * c : Nat) : Int) by omega, shr_eq _ _ (by omega), hD]
    rcases hcase with rfl | rfl | rfl | rfl <;> simp <;> omega
   ·rw [hN]
    rcases hcase with rfl | rfl | rfl | rfl <;> simp <;> omega
  obtain ⟨x, x1, x2, x3⟩ := hb
  have hsz : (d8 N).reverse.length < 140737488355328 := by
   have := size_mono hNV
   rw [nat_size] at this
   rw [List.length_reverse]
   omega
  have e1 : wrap64 (8 * ((c + 1 : Nat) : Int) - 8 - 8) = 8 * (c : Int) - 8 := by rw [w64 (by omega) (by omega)]; omega
  refine Ev.step (f := fun k => galoisref01_pack.l1 k l (d8 (N * 256 + x)).reverse (i : Int) (8 * (c : Int) - 8)) (fun k => ?_) (ih (N * 256 + x) (by omega) x3)
  rw [← rpack_byte x1]
  simp only [galoisref01_pack.l1, e1, x2]
  rw [if_pos (by omega), if_pos (by omega), if_pos (by omega), if_pos (by omega)]
  by_cases h1 : ((d8 N).reverse.length : Int) > 0
  ·rw [if_pos h1, if_pos hsz, if_pos h1]
  ·rw [if_neg h1, if_neg h1]
   by_cases h2 : (x : Int) > 0
   ·rw [if_pos h2, if_pos hsz, if_pos h2]
   ·rw [if_neg h2, if_neg h2]
theorem rpack_l0 {l : List Int} {V : Nat} (hd : Dig B32 l) (hl : l.length ≤ 1099511627776) (hV : (nat V).size ≤ 4398046511104) (hv : vB B32 l = V) : ∀ (J H : Nat), J ≤ l.length → vB B32 (l.drop J) = H → Ev (fun k => galoisref01_pack.l0 k l (d8 H).reverse ((J : Int) - 1)) (nat V) := by
 intro J
 induction J with
 | zero =>
  intro H _ hH
  rw [List.drop_zero, hv] at hH
  have e : H = V := by omega
  subst e
  refine Ev.step (f := fun _ => some (nat H)) (fun k => ?_) (Ev.now _)
  simp only [galoisref01_pack.l0]
  rw [if_neg (by decide)]
  rfl
 | succ i ih =>
  intro H hJ hH
  have hi : i < l.length := by omega
  obtain ⟨D, hD⟩ := Int.eq_ofNat_of_zero_le (Dig_rd hd i hi).1
  have hds := drop_succ B32 l i hi
  rw [hH, hD] at hds
  have hds' : vB B32 (l.drop i) = ((H * 4294967296 + D : Nat) : Int) := by
   rw [hds]
   show (D : Int) + 4294967296 * (H : Int) = _
   omega
  have hle : H * 4294967296 + D ≤ V := by
   have h1 := vB_split B32 l i (by omega)
   have h2 := vB_nonneg (show (0 : Int) ≤ B32 by decide) (Dig_take hd i)
   have h3 : (1 : Int) ≤ B32 ^ i := by have : (0 : Int) < B32 ^ i := Int.pow_pos (by decide); omega
   have h4 := Int.mul_le_mul_of_nonneg_right h3 (show 0 ≤ vB B32 (l.drop i) from vB_nonneg (by decide) (Dig_drop hd i))
   rw [Int.one_mul] at h4
   rw [hv] at h1
   rw [hds'] at h1 h4
   generalize B32 ^ i * ((H * 4294967296 + D : Nat) : Int) = X at *
   clear h3
   omega
  refine Ev.congr (f := fun k => galoisref01_pack.l0 k l (d8 H).reverse (i : Int)) (fun k => by rw [show ((i + 1 : Nat) : Int) - 1 = (i : Int) by omega]) ?_
  refine Ev.step (f := fun k => galoisref01_pack.l1 k l (d8 H).reverse (i : Int) (8 * ((4 : Nat) : Int) - 8)) (fun k => ?_) (rpack_l1 hd hl hV hi hD hle (ih _ (by omega) hds') 4 H (Nat.le_refl _) ?_)
  ·simp only [galoisref01_pack.l0]
   rw [if_pos (by omega)]
   rfl
  ·have hD32 : D < 4294967296 := by
    have h := (Dig_rd hd i hi).2
    rw [hD] at h
    exact Int.ofNat_lt.1 h
   simp
   omega
theorem rpack_ev {l : List Int} (hd : Dig B32 l) (hl : l.length ≤ 1099511627776) : Ev (fun k => galoisref01_pack.f k l) (nat (vB B32 l).toNat) := by
 have hv := vB_nonneg (show (0 : Int) ≤ B32 by decide) hd
 have hV : (nat (vB B32 l).toNat).size ≤ 4398046511104 := by
  have h : (nat (vB B32 l).toNat).size ≤ 4 * l.length := by
   apply nat_size_le.2
   have h1 := vB_lt (show (0 : Int) < B32 by decide) hd
   rw [Nat.pow_mul]
   have h2 : (((vB B32 l).toNat : Nat) : Int) < ((4294967296 ^ l.length : Nat) : Int) := by
    rw [Int.toNat_of_nonneg hv, Int.natCast_pow]
    exact h1
   exact Int.ofNat_lt.1 h2
  omega
 have e1 : wrap64 ((l.length : Int) - 1) = (l.length : Int) - 1 := w64 (by omega) (by omega)
 have := rpack_l0 hd hl hV (show vB B32 l = (((vB B32 l).toNat : Nat) : Int) by omega) l.length 0 (Nat.le_refl _) (by rw [List.drop_of_length_le (Nat.le_refl _)]; rfl)
 refine Ev.congr (fun k => ?_) this
 unfold galoisref01_pack.f
 rw [e1, show d8 0 = [] from dgs_zero _]
 rfl
end Go.Proofs.YtdhdfcjpeflinaaN
set_option linter.unusedVariables false
namespace Go.Proofs.YtdhdfcjpeflinaaN
open Go.RowKit Go.Proofs.Ytdhdfcjpeflinaa.All Go.Proofs.YtdhdfcjpeflinaaW.PrintWords Go.Proofs.YtdhdfcjpeflinaaW.PrintLast Go.Proofs.YtdhdfcjpeflinaaW.PrintMore
theorem and32 {x : Int} (h0 : 0 ≤ x) (h1 : x < 18446744073709551616) : Go.bits .and .u64 x 4294967295 = x % B32 := and_low h0 h1
theorem rCompare_ev (m n : Nat) : Ev (fun k => galoisref01_Compare.f k (nat m) (nat n)) (cmpN m n) := by
 have hj : ∀ b : Bool, b = decide (m < n) → Ev (fun k => galoisref01_Compare.j0 k (nat m) (nat n) b) (cmpN m n) := by
  rintro b rfl
  refine Ev.step (f := fun _ => some (cmpN m n)) (fun k => ?_) (Ev.now _)
  simp only [galoisref01_Compare.j0, toList_ext, nat_inj, decide_eq_true_eq, cmpN]
  split
  ·rfl
  ·split <;> rfl
 by_cases h1 : (nat m).size < (nat n).size
 ·refine Ev.congr (f := fun k => galoisref01_Compare.j0 k (nat m) (nat n) true) (fun k => ?_) (hj _ (by simp [size_lt h1]))
  unfold galoisref01_Compare.f
  rw [if_pos (by omega)]
 ·by_cases h2 : (nat m).size = (nat n).size
  ·refine Ev.congr (f := fun k => galoisref01_Compare.j0 k (nat m) (nat n) (Op.bytesLess (nat m).toList (nat n).toList)) (fun k => ?_) (hj _ (less_nat h2))
   unfold galoisref01_Compare.f
   rw [if_neg (by omega), if_pos (by omega)]
  ·refine Ev.congr (f := fun k => galoisref01_Compare.j0 k (nat m) (nat n) false) (fun k => ?_) (hj _ (by
    have : n < m := size_lt (by omega)
    simp; omega))
   unfold galoisref01_Compare.f
   rw [if_neg (by omega), if_neg (by omega)]
def RAdd (x y out : List Int) (i : Nat) (c : Int) : Prop :=
 out.length = i ∧ Dig B32 out ∧ (0 ≤ c ∧ c ≤ 1) ∧ vB B32 out + B32 ^ i * c = vB B32 (x.take i) + vB B32 (y.take i)
theorem radd_step {x y out : List Int} {i : Nat} {c : Int} (hx : Dig B32 x) (hy : Dig B32 y) (h : RAdd x y out i c) :
  RAdd x y (out ++ [(c + rd x (i : Int) + rd y (i : Int)) % B32]) (i + 1) ((c + rd x (i : Int) + rd y (i : Int)) / B32) := by
 obtain ⟨hl, hd, hc, hv⟩ := h
 obtain ⟨x0, x1⟩ := Dig_rd0 (by decide) hx i
 obtain ⟨y0, y1⟩ := Dig_rd0 (by decide) hy i
 have x1' : rd x (i : Int) < 4294967296 := x1
 have y1' : rd y (i : Int) < 4294967296 := y1
 refine ⟨by rw [List.length_append, hl]; rfl, Dig_append hd (Dig_cons.2 ⟨⟨Int.emod_nonneg _ (by decide), Int.emod_lt_of_pos _ (by decide)⟩, Dig_nil _⟩), ?_, ?_⟩
 ·show 0 ≤ (c + rd x (i : Int) + rd y (i : Int)) / 4294967296 ∧ (c + rd x (i : Int) + rd y (i : Int)) / 4294967296 ≤ 1
  clear hv
  omega
 ·rw [vB_append, hl, take_succ, take_succ, Int.pow_succ]
  have e := Int.emod_add_mul_ediv (c + rd x (i : Int) + rd y (i : Int)) B32
  generalize (c + rd x (i : Int) + rd y (i : Int)) / B32 = q at *
  generalize (c + rd x (i : Int) + rd y (i : Int)) % B32 = r at *
  have er : r = c + rd x (i : Int) + rd y (i : Int) - B32 * q := by clear hv; omega
  have e2 : vB B32 [r] = r := by simp [vB]
  rw [e2, er, Int.mul_sub, Int.mul_add, Int.mul_add, Int.mul_assoc (B32 ^ i) B32 q]
  generalize (B32 : Int) ^ i = P at *
  omega
theorem radd_round {x y out : List Int} {i : Nat} {c : Int} {r : ByteArray} (hx : Dig B32 x) (hy : Dig B32 y) (li : i ≤ 1099511627776) (h : RAdd x y out i c) (ht : i < x.length ∨ i < y.length ∨ c > 0)
  (next : Ev (fun k => galoisref01_Add.l0 k x y (out ++ [(c + rd x (i : Int) + rd y (i : Int)) % B32]) ((c + rd x (i : Int) + rd y (i : Int)) / B32) ((i + 1 : Nat) : Int)) r) : Ev (fun k => galoisref01_Add.l0 k x y out c (i : Int)) r := by
 have hl := h.1
 have hc := h.2.2.1
 have c4 : out.length < 17592186044416 := by omega
 obtain ⟨x0, x1⟩ := Dig_rd0 (by decide) hx i
 obtain ⟨y0, y1⟩ := Dig_rd0 (by decide) hy i
 have x1' : rd x (i : Int) < 4294967296 := x1
 have y1' : rd y (i : Int) < 4294967296 := y1
 have fx : ¬ (i : Int) < (x.length : Int) → rd x (i : Int) = 0 := fun h => rd_far x i (by omega)
 have fy : ¬ (i : Int) < (y.length : Int) → rd y (i : Int) = 0 := fun h => rd_far y i (by omega)
 have e1 : wrap64 ((i : Int) + 1) = ((i + 1 : Nat) : Int) := by rw [w64 (by omega) (by omega)]; omega
 have e2 : IntKind.u64.wrap (c + rd x (i : Int)) = c + rd x (i : Int) := by clear e1; exact u64 (by omega) (by omega)
 have e3 : IntKind.u64.wrap (c + rd x (i : Int) + rd y (i : Int)) = c + rd x (i : Int) + rd y (i : Int) := by clear e1 e2; exact u64 (by omega) (by omega)
 have e4 : IntKind.u64.wrap (c + rd y (i : Int)) = c + rd y (i : Int) := by clear e1 e2 e3; exact u64 (by omega) (by omega)
 have a3 := and32 (x := c + rd x (i : Int) + rd y (i : Int)) (by clear e1 e2 e3 e4; omega) (by clear e1 e2 e3 e4; omega)
 refine Ev.step (f := fun k => galoisref01_Add.j1 k x y out c (i : Int) true) (fun k => ?_) (Ev.step (fun k => ?_) next)
 ·simp only [galoisref01_Add.l0]
  by_cases hx' : (i : Int) < (x.length : Int)
  ·rw [if_pos hx']
  ·rw [if_neg hx']
   by_cases hy' : (i : Int) < (y.length : Int)
   ·rw [if_pos hy']
   ·rw [if_neg hy', decide_eq_true (show c > 0 by clear e1 e2 e3 e4 a3; omega)]
 ·simp only [galoisref01_Add.j1, e1]
  rw [if_pos trivial]
  by_cases hx' : (i : Int) < (x.length : Int)
  ·rw [if_pos hx', if_pos (Int.natCast_nonneg _)]
   by_cases hy' : (i : Int) < (y.length : Int)
   ·rw [if_pos hy', if_pos c4, e2, e3, a3]
   ·have z := fy hy'
    rw [z, Int.add_zero] at a3
    rw [if_neg hy', if_pos c4, e2, a3, z, Int.add_zero]
  ·have z := fx hx'
   rw [if_neg hx']
   by_cases hy' : (i : Int) < (y.length : Int)
   ·rw [z, Int.add_zero] at a3
    rw [if_pos hy', if_pos (Int.natCast_nonneg _), if_pos c4, e4, a3, z, Int.add_zero]
   ·have z2 := fy hy'
    rw [z, z2, Int.add_zero, Int.add_zero] at a3
    rw [if_neg hy', if_pos c4, a3, z, z2, Int.add_zero, Int.add_zero]
theorem radd_stop {x y out : List Int} {i n : Nat} (lx : x.length ≤ i) (ly : y.length ≤ i) (li : i ≤ 1099511627776) (hn : vB B32 x + vB B32 y = n) (h : RAdd x y out i 0) : Ev (fun k => galoisref01_Add.l0 k x y out 0 (i : Int)) (nat n) := by
 obtain ⟨hl, hd, -, hv⟩ := h
 rw [Int.mul_zero, Int.add_zero, vB_all _ _ _ lx, vB_all _ _ _ ly, hn] at hv
 have p := rpack_ev hd (by omega)
 rw [hv, Int.toNat_natCast] at p
 refine Ev.step (f := fun k => galoisref01_Add.j1 k x y out 0 (i : Int) false) (fun k => ?_) (Ev.step (f := fun k => (galoisref01_pack.f k out).bind fun t => some t) (fun k => ?_) (Ev.bind p (Ev.now _)))
 ·simp only [galoisref01_Add.l0]
  rw [if_neg (by omega), if_neg (by omega), decide_eq_false (by decide)]
 ·simp only [galoisref01_Add.j1]
  rw [if_neg Bool.false_ne_true]
theorem rAdd_l0 {x y : List Int} (hx : Dig B32 x) (hy : Dig B32 y) (M : Nat) (lx : x.length ≤ M) (ly : y.length ≤ M) (hM : M = x.length ∨ M = y.length) (lM : M ≤ 1099511627775) (n : Nat) (hn : vB B32 x + vB B32 y = n) : ∀ (d i : Nat) (out : List Int) (c : Int), i + d = M → RAdd x y out i c →
  Ev (fun k => galoisref01_Add.l0 k x y out c (i : Int)) (nat n) := by
 intro d
 induction d with
 | zero =>
  intro i out c hi h
  have hi : i = M := by omega
  subst hi
  have hc := h.2.2.1
  have hcase : c = 0 ∨ c = 1 := by omega
  rcases hcase with rfl | rfl
  ·exact radd_stop lx ly (by omega) hn h
  ·have hs := radd_step hx hy h
   have zx := rd_far x i lx
   have zy := rd_far y i ly
   rw [zx, zy] at hs
   refine radd_round hx hy (by omega) h (Or.inr (Or.inr (by decide))) ?_
   rw [zx, zy]
   exact radd_stop (by omega) (by omega) (by omega) hn hs
 | succ d ih =>
  intro i out c hi h
  exact radd_round hx hy (by omega) h (by omega) (ih (i + 1) _ _ (by omega) (radd_step hx hy h))
theorem rAdd_ev {m n : Nat} (hm : (nat m).size ≤ 1099511627776) (hn : (nat n).size ≤ 1099511627776) : Ev (fun k => galoisref01_Add.f k (nat m) (nat n)) (nat (m + n)) := by
 have lm := limbs_len m
 have ln := limbs_len n
 exact Ev.bind (limbs_nat hm) (Ev.bind (limbs_nat hn) (rAdd_l0 (d32_dig m) (d32_dig n) (max (d32 m).length (d32 n).length) (Nat.le_max_left _ _) (Nat.le_max_right _ _) (by omega) (by omega) (m + n) (by rw [d32_val, d32_val, Int.natCast_add]) (max (d32 m).length (d32 n).length) 0 [] 0 (Nat.zero_add _) ⟨rfl, Dig_nil _, ⟨by decide, by decide⟩, by simp [vB]⟩))
end Go.Proofs.YtdhdfcjpeflinaaN
set_option linter.unusedVariables false
namespace Go.Proofs.YtdhdfcjpeflinaaN
open Go.RowKit Go.Proofs.Ytdhdfcjpeflinaa.All Go.Proofs.YtdhdfcjpeflinaaW.PrintWords Go.Proofs.YtdhdfcjpeflinaaW.PrintLast Go.Proofs.YtdhdfcjpeflinaaW.PrintMore
theorem rmul_add {x y o c : Int} (x0 : 0 ≤ x) (x1 : x < B32) (y0 : 0 ≤ y) (y1 : y < B32) (o0 : 0 ≤ o) (o1 : o < B32) (c0 : 0 ≤ c) (c1 : c < B32) :
  0 ≤ (x * y + o + c) / B32 ∧ (x * y + o + c) / B32 < B32 ∧ IntKind.u64.wrap (IntKind.u64.wrap (o + IntKind.u64.wrap (x * y)) + c) = x * y + o + c ∧ Go.bits .and .u64 (x * y + o + c) 4294967295 = (x * y + o + c) % B32 := by
 have x1' : x < 4294967296 := x1
 have y1' : y < 4294967296 := y1
 have o1' : o < 4294967296 := o1
 have c1' : c < 4294967296 := c1
 have hp := mul_range x0 (show x ≤ 4294967295 by omega) y0 (show y ≤ 4294967295 by omega)
 have h1 : (4294967295 : Int) * 4294967295 = 18446744065119617025 := rfl
 rw [h1] at hp
 rw [and32 (x := x * y + o + c) (by omega) (by omega)]
 show 0 ≤ (x * y + o + c) / 4294967296 ∧ (x * y + o + c) / 4294967296 < 4294967296 ∧ IntKind.u64.wrap (IntKind.u64.wrap (o + IntKind.u64.wrap (x * y)) + c) = x * y + o + c ∧ (x * y + o + c) % 4294967296 = (x * y + o + c) % 4294967296
 generalize x * y = p at *
 clear x0 x1 x1' y0 y1 y1' o1 c1 h1
 rw [u64 (x := p) (by omega) (by omega), u64 (x := o + p) (by omega) (by omega), u64 (x := o + p + c) (by omega) (by omega)]
 omega
def RMulOut (a b out : List Int) (i : Nat) : Prop :=
 out.length = a.length + b.length ∧ Dig B32 out ∧ vB B32 out = vB B32 (a.take i) * vB B32 b ∧ ∀ j : Nat, i + b.length ≤ j → rd out (j : Int) = 0
def RMulIn (a b out : List Int) (i j : Nat) (c : Int) : Prop :=
 out.length = a.length + b.length ∧ Dig B32 out ∧ (0 ≤ c ∧ c < B32) ∧ vB B32 out + B32 ^ (i + j) * c = vB B32 (a.take i) * vB B32 b + B32 ^ i * (rd a (i : Int) * vB B32 (b.take j)) ∧ ∀ n : Nat, i + b.length ≤ n → rd out (n : Int) = 0
theorem rmul_in {a b out : List Int} {i j : Nat} {c : Int} (ha : Dig B32 a) (hb : Dig B32 b) (hi : i < a.length) (hj : j < b.length) (h : RMulIn a b out i j c) :
  RMulIn a b (out.set (i + j) ((rd a (i : Int) * rd b (j : Int) + rd out ((i + j : Nat) : Int) + c) % B32)) i (j + 1) ((rd a (i : Int) * rd b (j : Int) + rd out ((i + j : Nat) : Int) + c) / B32) := by
 obtain ⟨hl, hd, hc, hv, hz⟩ := h
 obtain ⟨x0, x1⟩ := Dig_rd ha i hi
 obtain ⟨y0, y1⟩ := Dig_rd hb j hj
 obtain ⟨o0, o1⟩ := Dig_rd hd (i + j) (by omega)
 obtain ⟨n0, n1, -⟩ := rmul_add x0 x1 y0 y1 o0 o1 hc.1 hc.2
 refine ⟨by rw [List.length_set]; exact hl, Dig_set hd _ (Int.emod_nonneg _ (by decide)) (Int.emod_lt_of_pos _ (by decide)), ⟨n0, n1⟩, ?_, fun n hn => ?_⟩
 ·rw [vB_set _ _ _ _ (by omega), take_succ, ← Nat.add_assoc, Int.pow_succ]
  have e := Int.emod_add_mul_ediv (rd a (i : Int) * rd b (j : Int) + rd out ((i + j : Nat) : Int) + c) B32
  generalize (rd a (i : Int) * rd b (j : Int) + rd out ((i + j : Nat) : Int) + c) / B32 = q at *
  generalize (rd a (i : Int) * rd b (j : Int) + rd out ((i + j : Nat) : Int) + c) % B32 = r at *
  have er : r = rd a (i : Int) * rd b (j : Int) + rd out ((i + j : Nat) : Int) + c - B32 * q := by omega
  rw [er]
  have ep : (B32 : Int) ^ (i + j) = B32 ^ i * B32 ^ j := Int.pow_add _ _ _
  rw [ep] at hv ⊢
  clear ep
  generalize vB B32 out = V at *
  generalize vB B32 (List.take i a) * vB B32 b = W at *
  generalize vB B32 (List.take j b) = U at *
  generalize (B32 : Int) ^ i = P at *
  generalize (B32 : Int) ^ j = Q at *
  generalize rd a (i : Int) = x at *
  generalize rd b (j : Int) = y at *
  generalize rd out ((i + j : Nat) : Int) = o at *
  have e1 : P * Q * (x * y + o + c - B32 * q - o) = P * Q * (x * y) + P * Q * c - P * Q * B32 * q := by
   rw [show x * y + o + c - B32 * q - o = x * y + c - B32 * q by omega, Int.mul_sub, Int.mul_add, Int.mul_assoc (P * Q) B32 q]
  have e2 : P * (x * (U + Q * y)) = P * (x * U) + P * Q * (x * y) := by
   rw [Int.mul_add x, Int.mul_add P, Int.mul_left_comm x Q y, Int.mul_assoc P Q]
  rw [e1, e2]
  omega
 ·rw [rd_set_ne _ _ _ _ (by omega)]
  exact hz n hn
theorem rMul_l1 (a b : List Int) (ha : Dig B32 a) (hb : Dig B32 b) (la : a.length ≤ 1099511627776) (lb : b.length ≤ 1099511627776) (i : Nat) (hi : i < a.length) (r : ByteArray)
  (next : ∀ out, RMulOut a b out (i + 1) → Ev (fun k => galoisref01_Mul.l0 k a b out ((i + 1 : Nat) : Int)) r) : ∀ (d j : Nat) (out : List Int) (c : Int), j + d = b.length → RMulIn a b out i j c →
  Ev (fun k => galoisref01_Mul.l1 k a b out (i : Int) c (j : Int)) r := by
 intro d
 induction d with
 | zero =>
  intro j out c hj h
  have hj : j = b.length := by omega
  subst hj
  have hl := h.1
  have c1 : i + b.length < out.length := by omega
  have c2 : ((i + b.length : Nat) : Int) < (out.length : Int) := Int.ofNat_lt.2 c1
  have e1 : wrap64 ((i : Int) + (b.length : Int)) = ((i + b.length : Nat) : Int) := by rw [w64 (by omega) (by omega)]; omega
  have e2 : wrap64 ((i : Int) + 1) = ((i + 1 : Nat) : Int) := by clear e1; rw [w64 (by omega) (by omega)]; omega
  obtain ⟨-, hd, hc, hv, hz⟩ := h
  refine Ev.step (f := fun k => galoisref01_Mul.l0 k a b (out.set (i + b.length) c) ((i + 1 : Nat) : Int)) (fun k => ?_) (next _ ⟨by rw [List.length_set]; exact hl, Dig_set hd _ hc.1 hc.2, ?_, fun j hj => ?_⟩)
  ·simp only [galoisref01_Mul.l1, e1, e2]
   rw [if_neg (Int.lt_irrefl _), if_pos (Int.natCast_nonneg _), if_pos c2, Int.toNat_natCast]
  ·rw [vB_set _ _ _ _ c1, hz _ (Nat.le_refl _), Int.sub_zero, hv, take_succ, vB_all _ _ _ (Nat.le_refl _), Int.add_mul, Int.mul_assoc]
  ·rw [rd_set_ne _ _ _ _ (by clear hv e1 e2; omega)]
   exact hz j (by clear hv e1 e2; omega)
 | succ d ih =>
  intro j out c hj h
  have hj' : j < b.length := by omega
  have hn := rmul_in ha hb hi hj' h
  have hl := h.1
  have c1 : i + j < out.length := by omega
  have c2 : ((i + j : Nat) : Int) < (out.length : Int) := Int.ofNat_lt.2 c1
  have c3 : (j : Int) < (b.length : Int) := Int.ofNat_lt.2 hj'
  have c5 : (i : Int) < (a.length : Int) := Int.ofNat_lt.2 hi
  have c4 : j + 1 + d = b.length := by omega
  have e1 : wrap64 ((i : Int) + (j : Int)) = ((i + j : Nat) : Int) := by rw [w64 (by omega) (by omega)]; omega
  have e2 : wrap64 ((j : Int) + 1) = ((j + 1 : Nat) : Int) := by clear e1; rw [w64 (by omega) (by omega)]; omega
  obtain ⟨-, hd, hc, -, -⟩ := h
  obtain ⟨x0, x1⟩ := Dig_rd ha i hi
  obtain ⟨y0, y1⟩ := Dig_rd hb j hj'
  obtain ⟨o0, o1⟩ := Dig_rd hd (i + j) c1
  obtain ⟨-, -, m0, m1⟩ := rmul_add x0 x1 y0 y1 o0 o1 hc.1 hc.2
  refine Ev.step (fun k => ?_) (ih (j + 1) _ _ c4 hn)
  simp only [galoisref01_Mul.l1, e1, e2]
  rw [if_pos c3, if_pos (Int.natCast_nonneg _), if_pos c2, if_pos (Int.natCast_nonneg _), if_pos c5, if_pos (Int.natCast_nonneg _), m0, m1, Int.toNat_natCast]
theorem rMul_l0 (a b : List Int) (ha : Dig B32 a) (hb : Dig B32 b) (la : a.length ≤ 549755813888) (lb : b.length ≤ 549755813888) (n : Nat) (hn : vB B32 a * vB B32 b = n) : ∀ (d i : Nat) (out : List Int), i + d = a.length → RMulOut a b out i →
  Ev (fun k => galoisref01_Mul.l0 k a b out (i : Int)) (nat n) := by
 intro d
 induction d with
 | zero =>
  intro i out hi h
  have hi : i = a.length := by omega
  subst hi
  obtain ⟨hl, hd, hv, hz⟩ := h
  rw [vB_all _ _ _ (Nat.le_refl _), hn] at hv
  have p := rpack_ev hd (by omega)
  rw [hv, Int.toNat_natCast] at p
  refine Ev.step (f := fun k => (galoisref01_pack.f k out).bind fun t => some t) (fun k => ?_) (Ev.bind p (Ev.now _))
  simp only [galoisref01_Mul.l0]
  rw [if_neg (Int.lt_irrefl _)]
 | succ d ih =>
  intro i out hi h
  have hi' : i < a.length := by omega
  have c1 : (i : Int) < (a.length : Int) := Int.ofNat_lt.2 hi'
  obtain ⟨hl, hd, hv, hz⟩ := h
  refine Ev.step (f := fun k => galoisref01_Mul.l1 k a b out (i : Int) 0 ((0 : Nat) : Int)) (fun k => ?_) (rMul_l1 a b ha hb (by omega) (by omega) i hi' _ (fun out' h' => ih (i + 1) out' (by omega) h') b.length 0 out 0 (Nat.zero_add _) ⟨hl, hd, ⟨by decide, by decide⟩, ?_, hz⟩)
  ·simp only [galoisref01_Mul.l0]
   rw [if_pos c1]
   rfl
  ·rw [hv]
   simp [vB]
theorem rMul_ev {m n : Nat} (hm : (nat m).size ≤ 1099511627776) (hn : (nat n).size ≤ 1099511627776) : Ev (fun k => galoisref01_Mul.f k (nat m) (nat n)) (nat (m * n)) := by
 have lm := limbs_len m
 have ln := limbs_len n
 refine Ev.bind (limbs_nat hm) (Ev.bind (limbs_nat hn) ?_)
 have e1 : wrap64 (((d32 m).length : Int) + ((d32 n).length : Int)) = (((d32 m).length + (d32 n).length : Nat) : Int) := by rw [w64 (by omega) (by omega)]; omega
 refine Ev.congr (f := fun k => galoisref01_Mul.l0 k (d32 m) (d32 n) (List.replicate ((d32 m).length + (d32 n).length) 0) ((0 : Nat) : Int)) (fun k => ?_) (rMul_l0 (d32 m) (d32 n) (d32_dig m) (d32_dig n) (by omega) (by omega) (m * n) (by rw [d32_val, d32_val, Int.natCast_mul]) (d32 m).length 0 _ (Nat.zero_add _) ⟨by simp, Dig_replicate (by decide) _, ?_, fun j _ => rd_replicate _ _⟩)
 ·rw [e1, if_pos (Int.natCast_nonneg _), Int.toNat_natCast, if_pos (by omega)]
  rfl
 ·rw [vB_replicate]
  simp [vB]
end Go.Proofs.YtdhdfcjpeflinaaN
set_option linter.unusedVariables false
namespace Go.Proofs.YtdhdfcjpeflinaaN
open Go.RowKit Go.Proofs.Ytdhdfcjpeflinaa.All Go.Proofs.YtdhdfcjpeflinaaW.PrintWords Go.Proofs.YtdhdfcjpeflinaaW.PrintLast Go.Proofs.YtdhdfcjpeflinaaW.PrintMore
theorem empty_toList : (⟨#[]⟩ : ByteArray).toList = ([] : List UInt8) := toList_nil.2 rfl
end Go.Proofs.YtdhdfcjpeflinaaN
set_option linter.unusedVariables false
namespace Go.Proofs.YtdhdfcjpeflinaaN
open Go.RowKit Go.Proofs.Ytdhdfcjpeflinaa.All Go.Proofs.YtdhdfcjpeflinaaW.PrintWords Go.Proofs.YtdhdfcjpeflinaaW.PrintLast Go.Proofs.YtdhdfcjpeflinaaW.PrintMore
def d10 (n : Nat) : List Int := dgs 8 n
def txt (D : List Int) : List Int := D.map (fun x => 48 + x)
def dec (n : Nat) : ByteArray := if n = 0 then ⟨#[48]⟩ else strOfNums (txt (d10 n)).reverse
def digit (s : ByteArray) (i : Nat) : Prop := 48 ≤ bt s (i : Int) ∧ bt s (i : Int) ≤ 57
instance (s : ByteArray) (i : Nat) : Decidable (digit s i) := by unfold digit; infer_instance
def digits (s : ByteArray) : Prop := ∀ i : Nat, i < s.size → digit s i
instance (s : ByteArray) : Decidable (digits s) := by unfold digits; infer_instance
def bad0 (s : ByteArray) : Prop := s.size = 0 ∨ (1 < s.size ∧ bt s 0 = 48)
instance (s : ByteArray) : Decidable (bad0 s) := by unfold bad0; infer_instance
end Go.Proofs.YtdhdfcjpeflinaaN
set_option linter.unusedVariables false
namespace Go.Proofs.YtdhdfcjpeflinaaN
open Go.RowKit Go.Proofs.Ytdhdfcjpeflinaa.All Go.Proofs.YtdhdfcjpeflinaaW.PrintWords Go.Proofs.YtdhdfcjpeflinaaW.PrintLast Go.Proofs.YtdhdfcjpeflinaaW.PrintMore
theorem NatUint_ev {n : Nat} (hn : n < 18446744073709551616) : Ev (fun k => exact_NatUint.f k (nat n)) ((n : Int), true) := by
 have hs : (nat n).size ≤ 8 := nat_size_le.2 hn
 refine Ev.bind (words_nat (by omega)) ?_
 have hl : (d64 n).length ≤ 1 := dgs_len (by rw [Nat.pow_one]; exact hn)
 refine Ev.congr (fun k => if_neg (show ¬ ((d64 n).length : Int) > 1 by omega)) ?_
 by_cases h : n = 0
 ·subst h
  rw [d64_zero]
  exact Ev.congr (fun k => if_pos rfl) (Ev.now _)
 ·have he : d64 n = [(n : Int)] := by
   unfold d64
   rw [dgs_pos _ _ h, show n % (18446744073709551614 + 2) = n by omega, show n / (18446744073709551614 + 2) = 0 by omega, dgs_zero]
  rw [he]
  exact Ev.congr (fun k => if_neg (show ¬ (1 : Int) = 0 by decide)) (Ev.congr (fun k => if_pos (show (0 : Int) < 1 by decide)) (Ev.now _))
end Go.Proofs.YtdhdfcjpeflinaaN
set_option linter.unusedVariables false
namespace Go.Proofs.YtdhdfcjpeflinaaN
open Go.RowKit Go.Proofs.Ytdhdfcjpeflinaa.All Go.Proofs.YtdhdfcjpeflinaaW.PrintWords Go.Proofs.YtdhdfcjpeflinaaW.PrintLast Go.Proofs.YtdhdfcjpeflinaaW.PrintMore
theorem win_small {s : ByteArray} (hs : s.size ≤ 8) {i : Nat} (hi : i < s.size) : 0 ≤ win s 0 i ∧ win s 0 i < 72057594037927936 := by
 obtain ⟨w0, w1⟩ := win_range s 0 i (Nat.zero_le _) (by omega)
 exact ⟨w0, Int.lt_of_lt_of_le w1 (pow_le_pow (B := 256) (by decide) (show i - 0 ≤ 7 by omega))⟩
theorem rUint_l0 (s : ByteArray) (hs : s.size ≤ 8) : ∀ (d i : Nat), i + d = s.size → Ev (fun k => galoisref01_Uint.l0 k s (win s 0 i) (i : Int)) (bval s, true) := by
 intro d
 induction d with
 | zero =>
  intro i hi
  have hi : i = s.size := by omega
  subst hi
  rw [win_all]
  refine Ev.step (f := fun _ => some (bval s, true)) (fun k => ?_) (Ev.now _)
  simp only [galoisref01_Uint.l0]
  rw [if_neg (Int.lt_irrefl _)]
 | succ d ih =>
  intro i hi
  have hi' : i < s.size := by omega
  have c1 : (i : Int) < (s.size : Int) := Int.ofNat_lt.2 hi'
  obtain ⟨w0, w1⟩ := win_small hs hi'
  obtain ⟨b0, b1⟩ := bt_range s (i : Int)
  have e1 : wrap64 ((i : Int) + 1) = ((i + 1 : Nat) : Int) := by rw [w64 (by omega) (by omega)]; omega
  have e2 : IntKind.u64.wrap (IntKind.u64.wrap (win s 0 i * 256) + IntKind.u64.wrap (bt s (i : Int))) = win s 0 (i + 1) := by
   clear e1
   rw [win_succ s 0 i (Nat.zero_le _) hi', u64 (x := win s 0 i * 256) (by omega) (by omega), u64 (x := bt s (i : Int)) (by omega) (by omega), u64 (by omega) (by omega)]
  refine Ev.step (f := fun k => galoisref01_Uint.l0 k s (win s 0 (i + 1)) ((i + 1 : Nat) : Int)) (fun k => ?_) (ih (i + 1) (by clear e1 e2; omega))
  simp only [galoisref01_Uint.l0, e1, e2]
  rw [if_pos c1, if_pos (Int.natCast_nonneg _)]
theorem rUint_ev (s : ByteArray) : Ev (fun k => galoisref01_Uint.f k s) (if 8 < s.size then (0, false) else (bval s, true)) := by
 by_cases h8 : 8 < s.size
 ·rw [if_pos h8]
  exact Ev.congr (fun k => if_pos (show (s.size : Int) > 8 by omega)) (Ev.now _)
 ·rw [if_neg h8]
  refine Ev.congr (fun k => if_neg (show ¬ (s.size : Int) > 8 by omega)) ?_
  have := rUint_l0 s (by omega) s.size 0 (Nat.zero_add _)
  rw [win_self] at this
  exact this
theorem rOf_ev {u : Nat} (hu : u < 18446744073709551616) : Ev (fun k => galoisref01_Of.f k (u : Int)) (nat u) := by
 have a1 := and32 (x := (u : Int)) (by omega) (by omega)
 have hd : Dig B32 [(u : Int) % B32, (u : Int) / 4294967296] := Dig_cons.2 ⟨⟨Int.emod_nonneg _ (by decide), Int.emod_lt_of_pos _ (by decide)⟩, Dig_cons.2 ⟨⟨by omega, by show _ < (4294967296 : Int); omega⟩, Dig_nil _⟩⟩
 have p := rpack_ev hd (by simp)
 have hv : vB B32 [(u : Int) % B32, (u : Int) / 4294967296] = u := by
  show (u : Int) % 4294967296 + 4294967296 * ((u : Int) / 4294967296 + 4294967296 * 0) = u
  omega
 rw [hv, Int.toNat_natCast] at p
 refine Ev.congr (f := fun k => (galoisref01_pack.f k [(u : Int) % B32, (u : Int) / 4294967296]).bind fun t => some t) (fun k => ?_) (Ev.bind p (Ev.now _))
 unfold galoisref01_Of.f
 rw [a1]
end Go.Proofs.YtdhdfcjpeflinaaN
set_option linter.unusedVariables false
namespace Go.Proofs.YtdhdfcjpeflinaaN
open Go.RowKit Go.Proofs.Ytdhdfcjpeflinaa.All Go.Proofs.YtdhdfcjpeflinaaW.PrintWords Go.Proofs.YtdhdfcjpeflinaaW.PrintLast Go.Proofs.YtdhdfcjpeflinaaW.PrintMore
theorem rtop_lt {x y : List Int} (hx : Dig B32 x) (hy : Dig B32 y) {i : Nat} (hi : i < x.length) (hi' : i < y.length) (hd : vB B32 (x.drop (i + 1)) = vB B32 (y.drop (i + 1))) (h : rd x (i : Int) < rd y (i : Int)) : vB B32 x < vB B32 y := by
 have hB : (0 : Int) < B32 := by decide
 have hsx := vB_split B32 x (i + 1) (by omega)
 have hsy := vB_split B32 y (i + 1) (by omega)
 rw [take_succ] at hsx hsy
 have ax := vB_lt hB (Dig_take hx i)
 rw [List.length_take, Nat.min_eq_left (by omega)] at ax
 have bb := vB_nonneg (Int.le_of_lt hB) (Dig_take hy i)
 rw [hd] at hsx
 have hP : (0 : Int) < B32 ^ i := Int.pow_pos hB
 rw [hsx, hsy]
 generalize vB B32 (x.take i) = X at *
 generalize vB B32 (y.take i) = Y at *
 generalize B32 ^ (i + 1) * vB B32 (y.drop (i + 1)) = Z at *
 generalize (B32 : Int) ^ i = P at *
 generalize rd x (i : Int) = a at *
 generalize rd y (i : Int) = b at *
 have h1 := Int.mul_le_mul_of_nonneg_left (show a + 1 ≤ b by omega) (Int.le_of_lt hP)
 rw [Int.mul_add, Int.mul_one] at h1
 clear hsx hsy hd
 omega
theorem below_l0 (x y : List Int) (hx : Dig B32 x) (hy : Dig B32 y) (hl : x.length = y.length) (hs : x.length < 9223372036854775808) {m n : Nat} (hm : vB B32 x = m) (hn : vB B32 y = n) : ∀ i : Nat, i ≤ x.length → vB B32 (x.drop i) = vB B32 (y.drop i) → Ev (fun k => galoisref01_below.l0 k x y ((i : Int) - 1)) (decide (m < n)) := by
 intro i
 induction i with
 | zero =>
  intro _ hd
  rw [List.drop_zero, List.drop_zero, hm, hn] at hd
  have e : ¬ m < n := by omega
  rw [decide_eq_false e]
  refine Ev.step (f := fun _ => some false) (fun k => ?_) (Ev.now _)
  simp only [galoisref01_below.l0]
  rw [if_neg (by decide)]
 | succ i ih =>
  intro hi hd
  have e0 : ((i + 1 : Nat) : Int) - 1 = (i : Int) := by omega
  have e1 : wrap64 ((i : Int) - 1) = (i : Int) - 1 := w64 (by omega) (by omega)
  have c1 : (i : Int) ≥ 0 := by omega
  have c2 : (i : Int) < (x.length : Int) := by omega
  have c3 : (i : Int) < (y.length : Int) := by omega
  rw [e0]
  by_cases he : rd x (i : Int) = rd y (i : Int)
  ·refine Ev.step (f := fun k => galoisref01_below.l0 k x y ((i : Int) - 1)) (fun k => ?_) (ih (by omega) ?_)
   ·simp only [galoisref01_below.l0, e1]
    rw [if_pos c1, if_pos c1, if_pos c2, if_pos c3, if_pos he]
   ·rw [drop_succ B32 x i (by omega), drop_succ B32 y i (by omega), hd, he]
  ·have hdec : decide (rd x (i : Int) < rd y (i : Int)) = decide (m < n) := by
    by_cases hab : rd x (i : Int) < rd y (i : Int)
    ·have h1 := rtop_lt hx hy (by omega) (by omega) hd hab
     rw [decide_eq_true hab, decide_eq_true (by rw [hm, hn] at h1; omega)]
    ·have h1 := rtop_lt hy hx (by omega) (by omega) hd.symm (show rd y (i : Int) < rd x (i : Int) by omega)
     rw [decide_eq_false hab, decide_eq_false (by rw [hm, hn] at h1; omega)]
   refine Ev.step (f := fun _ => some (decide (m < n))) (fun k => ?_) (Ev.now _)
   simp only [galoisref01_below.l0, e1]
   rw [if_pos c1, if_pos c1, if_pos c2, if_pos c3, if_neg he, hdec]
theorem below_ev {l : List Int} {n R : Nat} (hd : Dig B32 l) (hl : l.length < 9223372036854775808) (hR : vB B32 l = R) (hn : (d32 n).length < 9223372036854775808) : Ev (fun k => galoisref01_below.f k l (d32 n)) (decide (R < n)) := by
 have ht := rtrimV_ev hl hd
 rw [hR, Int.toNat_natCast] at ht
 have hRl : (d32 R).length < 9223372036854775808 := by
  have : (d32 R).length ≤ l.length := dgs_len (by
   have h1 := vB_lt (show (0 : Int) < B32 by decide) hd
   rw [hR] at h1
   have h2 : ((R : Nat) : Int) < ((4294967294 + 2 : Nat) : Int) ^ l.length := h1
   rw [← Int.natCast_pow] at h2
   exact Int.ofNat_lt.1 h2)
  omega
 refine Ev.bind ht ?_
 by_cases h1 : (d32 R).length = (d32 n).length
 ·have := below_l0 (d32 R) (d32 n) (d32_dig R) (d32_dig n) h1 hRl (d32_val R) (d32_val n) (d32 R).length (Nat.le_refl _) (by
   rw [List.drop_of_length_le (Nat.le_refl _), List.drop_of_length_le (by omega)])
  refine Ev.congr (fun k => ?_) this
  rw [if_pos (by omega), w64 (by omega) (by omega)]
 ·have hdec : decide (((d32 R).length : Int) < ((d32 n).length : Int)) = decide (R < n) := by
   by_cases h2 : (d32 R).length < (d32 n).length
   ·have h3 := trim_len (by decide) (d32_dig R) (d32_dig n) (d32_trim n) h2
    rw [d32_val, d32_val] at h3
    rw [decide_eq_true (by omega), decide_eq_true (by omega)]
   ·have h3 := trim_len (by decide) (d32_dig n) (d32_dig R) (d32_trim R) (by omega)
    rw [d32_val, d32_val] at h3
    rw [decide_eq_false (by omega), decide_eq_false (by omega)]
  refine Ev.congr (f := fun _ => some (decide (R < n))) (fun k => ?_) (Ev.now _)
  rw [if_neg (by omega), hdec]
end Go.Proofs.YtdhdfcjpeflinaaN
set_option linter.unusedVariables false
namespace Go.Proofs.YtdhdfcjpeflinaaN
open Go.RowKit Go.Proofs.Ytdhdfcjpeflinaa.All Go.Proofs.YtdhdfcjpeflinaaW.PrintWords Go.Proofs.YtdhdfcjpeflinaaW.PrintLast Go.Proofs.YtdhdfcjpeflinaaW.PrintMore
def RSm (u y z : List Int) (g : Int) (K i : Nat) (c : Int) : Prop :=
 z.length = u.length ∧ Dig B32 z ∧ (0 ≤ c ∧ c < B32) ∧ z.take K = u.take K ∧ z.drop (K + i) = u.drop (K + i) ∧ vB B32 z + B32 ^ K * (g * vB B32 (y.take i)) = vB B32 u + B32 ^ (K + i) * c
theorem take_set_far {l : List Int} {K j : Nat} (h : K ≤ j) (x : Int) : (l.set j x).take K = l.take K := List.take_set_of_le h
theorem rsm_digit {z y g c : Int} (z0 : 0 ≤ z) (z1 : z < B32) (y0 : 0 ≤ y) (y1 : y < B32) (g0 : 0 ≤ g) (g1 : g < B32) (c0 : 0 ≤ c) (c1 : c < B32) :
  IntKind.u64.wrap (IntKind.u64.wrap (y * g) + c) = y * g + c ∧ Go.bits .and .u64 (y * g + c) 4294967295 = (y * g + c) % B32 ∧ 0 ≤ (y * g + c) / B32 ∧ (y * g + c) / B32 < B32 ∧ 0 ≤ (y * g + c) % B32 ∧ (y * g + c) % B32 < B32 ∧ (z < (y * g + c) % B32 → (y * g + c) / B32 + 1 < B32) := by
 have z1' : z < 4294967296 := z1
 have y1' : y < 4294967296 := y1
 have g1' : g < 4294967296 := g1
 have c1' : c < 4294967296 := c1
 have hp := mul_range y0 (show y ≤ 4294967295 by omega) g0 (show g ≤ 4294967295 by omega)
 have h1 : (4294967295 : Int) * 4294967295 = 18446744065119617025 := rfl
 rw [h1] at hp
 rw [and32 (x := y * g + c) (by omega) (by omega)]
 show IntKind.u64.wrap (IntKind.u64.wrap (y * g) + c) = y * g + c ∧ (y * g + c) % 4294967296 = (y * g + c) % 4294967296 ∧ 0 ≤ (y * g + c) / 4294967296 ∧ (y * g + c) / 4294967296 < 4294967296 ∧ 0 ≤ (y * g + c) % 4294967296 ∧ (y * g + c) % 4294967296 < 4294967296 ∧ (z < (y * g + c) % 4294967296 → (y * g + c) / 4294967296 + 1 < 4294967296)
 generalize y * g = p at *
 clear y0 y1 y1' g0 g1 g1' z1 c1 h1
 rw [u64 (x := p) (by omega) (by omega), u64 (x := p + c) (by omega) (by omega)]
 omega
theorem rsm_step {u y z : List Int} {g c d e : Int} {K i : Nat} (hj : K + i < z.length) (h : RSm u y z g K i c) (d0 : 0 ≤ d) (d1 : d < B32) (he : 0 ≤ (rd y (i : Int) * g + c) / B32 + e) (he1 : (rd y (i : Int) * g + c) / B32 + e < B32)
  (hd : d = rd z ((K + i : Nat) : Int) - (rd y (i : Int) * g + c) % B32 + B32 * e) : RSm u y (z.set (K + i) d) g K (i + 1) ((rd y (i : Int) * g + c) / B32 + e) := by
 obtain ⟨hl, hdg, hc, ht, hdr, hv⟩ := h
 refine ⟨by rw [List.length_set]; exact hl, Dig_set hdg _ d0 d1, ⟨he, he1⟩, by rw [take_set_far (by omega)]; exact ht, ?_, ?_⟩
 ·rw [← Nat.add_assoc, drop_set, ← List.drop_drop, hdr, List.drop_drop]
 ·rw [vB_set _ _ _ _ hj, take_succ, ← Nat.add_assoc, Int.pow_succ, hd]
  have em := Int.emod_add_mul_ediv (rd y (i : Int) * g + c) B32
  generalize (rd y (i : Int) * g + c) / B32 = q at *
  generalize (rd y (i : Int) * g + c) % B32 = r at *
  have er : rd z ((K + i : Nat) : Int) - r + B32 * e - rd z ((K + i : Nat) : Int) = B32 * (q + e) - rd y (i : Int) * g - c := by
   rw [Int.mul_add]
   clear hv
   omega
  have ep : (B32 : Int) ^ (K + i) = B32 ^ K * B32 ^ i := Int.pow_add _ _ _
  rw [er, Int.mul_sub, Int.mul_sub, Int.mul_assoc (B32 ^ (K + i)) B32]
  have e3 : B32 ^ K * (g * (vB B32 (y.take i) + B32 ^ i * rd y (i : Int))) = B32 ^ K * (g * vB B32 (y.take i)) + B32 ^ (K + i) * (rd y (i : Int) * g) := by
   rw [ep, Int.mul_add g, Int.mul_add (B32 ^ K), Int.mul_left_comm g (B32 ^ i), ← Int.mul_assoc (B32 ^ K) (B32 ^ i), Int.mul_comm g (rd y _)]
  rw [e3]
  generalize B32 ^ (K + i) * (B32 * (q + e)) = A1 at *
  generalize B32 ^ (K + i) * (rd y (i : Int) * g) = A2 at *
  generalize B32 ^ (K + i) * c = A3 at *
  generalize B32 ^ K * (g * vB B32 (y.take i)) = A4 at *
  clear ep er em
  omega
theorem rsm_end {u y z : List Int} {g c : Int} {K N : Nat} (hN : y.length = N) (hKN : K + N < u.length) (hu : Dig B32 u) (hy : Dig B32 y) (h : RSm u y z g K N c) (hg : g * vB B32 y ≤ vB B32 (u.drop K)) (hR : vB B32 (u.drop K) < vB B32 y * B32) :
  0 ≤ rd z ((K + N : Nat) : Int) - c ∧ rd z ((K + N : Nat) : Int) - c < B32 ∧ (z.set (K + N) (rd z ((K + N : Nat) : Int) - c)).length = u.length ∧ Dig B32 (z.set (K + N) (rd z ((K + N : Nat) : Int) - c)) ∧
  vB B32 ((z.set (K + N) (rd z ((K + N : Nat) : Int) - c)).drop K) = vB B32 (u.drop K) - g * vB B32 y ∧ vB B32 (z.set (K + N) (rd z ((K + N : Nat) : Int) - c)) + B32 ^ K * (g * vB B32 y) = vB B32 u := by
 have hB : (0 : Int) < B32 := by decide
 obtain ⟨hl, hd, hc, ht, hdr, hv⟩ := h
 rw [vB_all _ _ _ (by rw [hN]; exact Nat.le_refl _)] at hv
 have hj : K + N < z.length := by omega
 obtain ⟨z0, z1⟩ := Dig_rd hd (K + N) hj
 have hy1 := vB_lt hB hy
 rw [hN] at hy1
 have s2 := vB_split B32 (u.drop K) (N + 1) (by rw [List.length_drop]; omega)
 rw [List.drop_drop] at s2
 have p1 := vB_nonneg (Int.le_of_lt hB) (Dig_take (Dig_drop hu K) (N + 1))
 have p2 := vB_nonneg (Int.le_of_lt hB) (Dig_drop hu (K + (N + 1)))
 have hzero : vB B32 (u.drop (K + (N + 1))) = 0 := by
  rcases Int.lt_or_le (vB B32 (u.drop (K + (N + 1)))) 1 with h | h
  ·clear hv hy1 s2 hR hg; omega
  ·exfalso
   have h1 := Int.mul_le_mul_of_nonneg_left h (Int.le_of_lt (show (0 : Int) < B32 ^ (N + 1) from Int.pow_pos hB))
   rw [Int.mul_one] at h1
   have h2 := Int.mul_lt_mul_of_pos_right hy1 hB
   have h3 : (B32 : Int) ^ (N + 1) = B32 ^ N * B32 := Int.pow_succ _ _
   rw [h3] at h1 s2
   generalize (B32 : Int) ^ N * B32 = P at *
   generalize P * vB B32 (u.drop (K + (N + 1))) = A at *
   clear hv hy1 hg h3
   omega
 have s3 := vB_split B32 z (K + N) (by omega)
 have s4 : vB B32 (z.drop (K + N)) = rd z ((K + N : Nat) : Int) := by
  have h1 := drop_succ B32 z (K + N) hj
  have h2 : z.drop (K + N + 1) = u.drop (K + (N + 1)) := by rw [← List.drop_drop, hdr, List.drop_drop, Nat.add_assoc]
  rw [h2, hzero, Int.mul_zero, Int.add_zero] at h1
  exact h1
 have l0 := vB_nonneg (Int.le_of_lt hB) (Dig_take hd (K + N))
 have l1 := vB_lt hB (Dig_take hd (K + N))
 rw [List.length_take, Nat.min_eq_left (by clear hv hy1 s2 s3; omega)] at l1
 have s5 := vB_split B32 u K (by clear hv hy1 s2 s3 l1; omega)
 have l2 := vB_nonneg (Int.le_of_lt hB) (Dig_take hu K)
 have hge : c ≤ rd z ((K + N : Nat) : Int) := by
  rcases Int.lt_or_le (rd z ((K + N : Nat) : Int)) c with h | h
  ·exfalso
   have h1 := Int.mul_le_mul_of_nonneg_left (show rd z ((K + N : Nat) : Int) + 1 ≤ c by clear hv hy1 s2 s3 l1 s5; omega) (Int.le_of_lt (show (0 : Int) < B32 ^ (K + N) from Int.pow_pos hB))
   rw [Int.mul_add, Int.mul_one] at h1
   have h2 := Int.mul_le_mul_of_nonneg_left hg (Int.le_of_lt (show (0 : Int) < B32 ^ K from Int.pow_pos hB))
   rw [s4] at s3
   generalize B32 ^ (K + N) * rd z ((K + N : Nat) : Int) = A1 at *
   generalize B32 ^ (K + N) * c = A2 at *
   generalize (B32 : Int) ^ (K + N) = A3 at *
   generalize B32 ^ K * (g * vB B32 y) = A4 at *
   generalize B32 ^ K * vB B32 (u.drop K) = A5 at *
   clear hy1 s2
   omega
  ·exact h
 have d0 : 0 ≤ rd z ((K + N : Nat) : Int) - c := by clear hv hy1 s2 s3 l1 s5; omega
 have d1 : rd z ((K + N : Nat) : Int) - c < B32 := by clear hv hy1 s2 s3 l1 s5; omega
 have hval : vB B32 (z.set (K + N) (rd z ((K + N : Nat) : Int) - c)) + B32 ^ K * (g * vB B32 y) = vB B32 u := by
  rw [vB_set _ _ _ _ hj, show rd z ((K + N : Nat) : Int) - c - rd z ((K + N : Nat) : Int) = -c by clear hv hy1 s2 s3 l1 s5; omega, Int.mul_neg]
  generalize B32 ^ (K + N) * c = A2 at *
  generalize B32 ^ K * (g * vB B32 y) = A4 at *
  clear hy1 s2 s3 l1 s5
  omega
 refine ⟨d0, d1, by rw [List.length_set]; exact hl, Dig_set hd _ d0 d1, ?_, hval⟩
 have s6 := vB_split B32 (z.set (K + N) (rd z ((K + N : Nat) : Int) - c)) K (by rw [List.length_set]; clear hv hy1 s2 s3 l1 s5 hval; omega)
 rw [take_set_far (by clear hv hy1 s2 s3 l1 s5 hval; omega), ht] at s6
 have hne : (B32 : Int) ^ K ≠ 0 := Int.ne_of_gt (Int.pow_pos hB)
 apply Int.eq_of_mul_eq_mul_left hne
 rw [Int.mul_sub]
 generalize B32 ^ K * vB B32 ((z.set (K + N) (rd z ((K + N : Nat) : Int) - c)).drop K) = A1 at *
 generalize B32 ^ K * vB B32 (u.drop K) = A2 at *
 generalize B32 ^ K * (g * vB B32 y) = A4 at *
 clear hv hy1 s2 s3 l1
 omega
end Go.Proofs.YtdhdfcjpeflinaaN
set_option linter.unusedVariables false
namespace Go.Proofs.YtdhdfcjpeflinaaN
open Go.RowKit Go.Proofs.Ytdhdfcjpeflinaa.All Go.Proofs.YtdhdfcjpeflinaaW.PrintWords Go.Proofs.YtdhdfcjpeflinaaW.PrintLast Go.Proofs.YtdhdfcjpeflinaaW.PrintMore
theorem rdiv_l2 {u y q : List Int} {g : Int} {K N : Nat} (hN : y.length = N) (hKN : K + N < u.length) (lu : u.length ≤ 1099511627776) (hu : Dig B32 u) (hy : Dig B32 y) (g0 : 0 ≤ g) (g1 : g < B32) (hg : g * vB B32 y ≤ vB B32 (u.drop K)) (hR : vB B32 (u.drop K) < vB B32 y * B32) {r : ByteArray × ByteArray}
  (next : ∀ z' : List Int, z'.length = u.length → Dig B32 z' → vB B32 (z'.drop K) = vB B32 (u.drop K) - g * vB B32 y → vB B32 z' + B32 ^ K * (g * vB B32 y) = vB B32 u → Ev (fun k => galoisref01_DivMod.l1 k y (N : Int) z' q (K : Int)) r) :
  ∀ (d i : Nat) (z : List Int) (c : Int), i + d = N → RSm u y z g K i c → Ev (fun k => galoisref01_DivMod.l2 k y (N : Int) z q (K : Int) g c (i : Int)) r := by
 intro d
 induction d with
 | zero =>
  intro i z c hi h
  have hi : i = N := by omega
  subst hi
  have hl := h.1
  have c1 : ((K + i : Nat) : Int) < (z.length : Int) := by omega
  obtain ⟨d0, d1, r1, r2, r3, r4⟩ := rsm_end hN hKN hu hy h hg hR
  have d1' : rd z ((K + i : Nat) : Int) - c < 4294967296 := d1
  have e1 : wrap64 ((K : Int) + (i : Int)) = ((K + i : Nat) : Int) := by clear r3 r4 hg hR; rw [w64 (by omega) (by omega)]; omega
  have e2 : IntKind.u64.wrap (rd z ((K + i : Nat) : Int) - c) = rd z ((K + i : Nat) : Int) - c := by clear r3 r4 hg hR e1; exact u64 (by omega) (by omega)
  refine Ev.step (fun k => ?_) (next _ r1 r2 r3 r4)
  simp only [galoisref01_DivMod.l2, e1, e2]
  rw [if_neg (Int.lt_irrefl _), if_pos (Int.natCast_nonneg _), if_pos c1, Int.toNat_natCast]
 | succ d ih =>
  intro i z c hi h
  have hl := h.1
  have hi' : i < N := by omega
  have hj : K + i < z.length := by omega
  have c0 : i + 1 + d = N := by omega
  have c1 : (i : Int) < (N : Int) := Int.ofNat_lt.2 hi'
  have c2 : (i : Int) < (y.length : Int) := by rw [hN]; exact c1
  have c3 : ((K + i : Nat) : Int) < (z.length : Int) := Int.ofNat_lt.2 hj
  obtain ⟨z0, z1⟩ := Dig_rd h.2.1 (K + i) hj
  obtain ⟨y0, y1⟩ := Dig_rd hy i (by omega)
  have hc := h.2.2.1
  obtain ⟨p1, p2, p3, p4, p5, p6, p7⟩ := rsm_digit z0 z1 y0 y1 g0 g1 hc.1 hc.2
  have z1' : rd z ((K + i : Nat) : Int) < 4294967296 := z1
  have p4' : (rd y (i : Int) * g + c) / B32 < 4294967296 := p4
  have p6' : (rd y (i : Int) * g + c) % B32 < 4294967296 := p6
  have e1 : wrap64 ((K : Int) + (i : Int)) = ((K + i : Nat) : Int) := by clear p1 p2 p3 p4 p4' p5 p6 p6' p7 hg hR; rw [w64 (by omega) (by omega)]; omega
  have e2 : wrap64 ((i : Int) + 1) = ((i + 1 : Nat) : Int) := by clear p1 p2 p3 p4 p4' p5 p6 p6' p7 hg hR e1; rw [w64 (by omega) (by omega)]; omega
  by_cases hb : rd z ((K + i : Nat) : Int) < (rd y (i : Int) * g + c) % B32
  ·have p8 := p7 hb
   have hs := rsm_step (d := rd z ((K + i : Nat) : Int) + 4294967296 - (rd y (i : Int) * g + c) % B32) (e := 1) hj h (by clear p1 p2 p3 p4 p4' p5 p7 hg hR e1 e2; omega) (by show _ < (4294967296 : Int); clear p1 p2 p3 p4 p4' p5 p7 hg hR e1 e2; omega) (by clear p1 p2 p4 p4' p5 p7 hg hR e1 e2 hb; omega) p8 (by show _ = rd z ((K + i : Nat) : Int) - (rd y (i : Int) * g + c) % B32 + 4294967296 * 1; clear p1 p2 p3 p4 p4' p5 p7 hg hR e1 e2; omega)
   have e3 : IntKind.u64.wrap (rd z ((K + i : Nat) : Int) + 4294967296) = rd z ((K + i : Nat) : Int) + 4294967296 := by clear p1 p2 p3 p4 p4' p5 p7 hg hR e1 e2; exact u64 (by omega) (by omega)
   have e4 : IntKind.u64.wrap (rd z ((K + i : Nat) : Int) + 4294967296 - (rd y (i : Int) * g + c) % B32) = rd z ((K + i : Nat) : Int) + 4294967296 - (rd y (i : Int) * g + c) % B32 := by clear p1 p2 p3 p4 p4' p7 hg hR e1 e2 e3; exact u64 (by omega) (by omega)
   have e5 : IntKind.u64.wrap ((rd y (i : Int) * g + c) / 4294967296 + 1) = (rd y (i : Int) * g + c) / B32 + 1 := by
    clear p1 p2 p7 hg hR e1 e2 e3 e4
    exact u64 (Int.add_nonneg p3 (by decide)) (Int.lt_trans p8 (by decide))
   have r1 : rd (z.set (K + i) (rd z ((K + i : Nat) : Int) + 4294967296)) ((K + i : Nat) : Int) = rd z ((K + i : Nat) : Int) + 4294967296 := rd_set_self _ _ _ hj
   refine Ev.step (fun k => ?_) (ih (i + 1) _ _ c0 hs)
   simp only [galoisref01_DivMod.l2, e1, e2, p1, p2, e3, e5, Int.toNat_natCast, Option.bind_some]
   rw [if_pos c1, if_pos (Int.natCast_nonneg _), if_pos c2, if_pos (Int.natCast_nonneg _), if_pos c3, if_pos hb, r1, e4, List.set_set]
  ·have hs := rsm_step (d := rd z ((K + i : Nat) : Int) - (rd y (i : Int) * g + c) % B32) (e := 0) hj h (by clear p1 p2 p3 p4 p4' p7 hg hR e1 e2; omega) (by show _ < (4294967296 : Int); clear p1 p2 p3 p4 p4' p7 hg hR e1 e2; omega) (by rw [Int.add_zero]; exact p3) (by rw [Int.add_zero]; exact p4) (by rw [Int.mul_zero, Int.add_zero])
   have e4 : IntKind.u64.wrap (rd z ((K + i : Nat) : Int) - (rd y (i : Int) * g + c) % B32) = rd z ((K + i : Nat) : Int) - (rd y (i : Int) * g + c) % B32 := by clear p1 p2 p3 p4 p4' p7 hg hR e1 e2; exact u64 (by omega) (by omega)
   rw [Int.add_zero] at hs
   refine Ev.step (fun k => ?_) (ih (i + 1) _ _ c0 hs)
   simp only [galoisref01_DivMod.l2, e1, e2, p1, p2, Int.toNat_natCast]
   rw [if_pos c1, if_pos (Int.natCast_nonneg _), if_pos c2, if_pos (Int.natCast_nonneg _), if_pos c3, if_neg hb, e4]
end Go.Proofs.YtdhdfcjpeflinaaN
set_option linter.unusedVariables false
namespace Go.Proofs.YtdhdfcjpeflinaaN
open Go.RowKit Go.Proofs.Ytdhdfcjpeflinaa.All Go.Proofs.YtdhdfcjpeflinaaW.PrintWords Go.Proofs.YtdhdfcjpeflinaaW.PrintLast Go.Proofs.YtdhdfcjpeflinaaW.PrintMore
theorem d32_pos {n : Nat} (h : 0 < n) : 0 < (d32 n).length := by
 rcases Nat.eq_zero_or_pos (d32 n).length with h1 | h1
 ·exfalso
  have := d32_val n
  rw [List.eq_nil_of_length_eq_zero h1] at this
  simp [vB] at this
  omega
 ·exact h1
theorem mx_or (a b : Int) : (mx a b = a ∧ b ≤ a) ∨ (mx a b = b ∧ a ≤ b) := by
 unfold mx
 split
 ·right; exact ⟨rfl, by omega⟩
 ·left; exact ⟨rfl, by omega⟩
theorem rguess {u : List Int} {n K N : Nat} {R T top : Int} (hn : 0 < n) (hN : (d32 n).length = N + 1) (hKN : K + (N + 1) < u.length) (hu : Dig B32 u) (hR : vB B32 (u.drop K) = R) (hge : (n : Int) ≤ R) (hlt : R < n * B32)
  (hT : T = rd u ((K + (N + 1) : Nat) : Int) * 4294967296 + rd u ((K + N : Nat) : Int)) (htop : top = rd (d32 n) (N : Int)) :
  (0 ≤ T ∧ T < 18446744073709551616) ∧ (0 ≤ top ∧ top < 4294967296) ∧ 1 ≤ mx 1 (T / (top + 1)) ∧ mx 1 (T / (top + 1)) < B32 ∧ mx 1 (T / (top + 1)) * n ≤ R := by
 have hB : (0 : Int) < B32 := by decide
 obtain ⟨t0, t1⟩ := Dig_rd (d32_dig n) N (by omega)
 obtain ⟨u0, u1⟩ := Dig_rd hu (K + (N + 1)) hKN
 obtain ⟨v0, v1⟩ := Dig_rd hu (K + N) (by omega)
 rw [← htop] at t0 t1
 have t1' : top < 4294967296 := t1
 have u1' : rd u ((K + (N + 1) : Nat) : Int) < 4294967296 := u1
 have v1' : rd u ((K + N : Nat) : Int) < 4294967296 := v1
 have T0 : 0 ≤ T := by omega
 have T1 : T < 18446744073709551616 := by omega
 have key : T / (top + 1) * n ≤ R := by
  have hg0 : 0 ≤ T / (top + 1) := Int.ediv_nonneg T0 (by omega)
  have hg1 : T / (top + 1) * (top + 1) ≤ T := Int.ediv_mul_le T (by omega)
  have s1 := vB_split B32 (u.drop K) N (by rw [List.length_drop]; omega)
  rw [List.drop_drop, hR] at s1
  have p1 := vB_nonneg (Int.le_of_lt hB) (Dig_take (Dig_drop hu K) N)
  have s2 := drop_succ B32 u (K + N) (by omega)
  have s3 := drop_succ B32 u (K + (N + 1)) hKN
  rw [show K + N + 1 = K + (N + 1) by omega, s3] at s2
  have p2 := vB_nonneg (Int.le_of_lt hB) (Dig_drop hu (K + (N + 1) + 1))
  have hle : T ≤ vB B32 (u.drop (K + N)) := by
   rw [s2, hT]
   show _ ≤ rd u ((K + N : Nat) : Int) + 4294967296 * (rd u ((K + (N + 1) : Nat) : Int) + 4294967296 * vB B32 (u.drop (K + (N + 1) + 1)))
   clear s1 s2 s3 hg1 hlt hge
   omega
  have hP : (0 : Int) ≤ B32 ^ N := Int.le_of_lt (Int.pow_pos hB)
  have h1 := Int.mul_le_mul_of_nonneg_left hle hP
  have hn1 := vB_all B32 (d32 n) (N + 1) (by omega)
  rw [take_succ, d32_val, ← htop] at hn1
  have hn2 := vB_lt hB (Dig_take (d32_dig n) N)
  rw [List.length_take, Nat.min_eq_left (by omega)] at hn2
  have hn3 : (n : Int) ≤ B32 ^ N * (top + 1) := by
   rw [Int.mul_add, Int.mul_one]
   generalize B32 ^ N * top = A at *
   generalize (B32 : Int) ^ N = P at *
   clear s1 s2 s3 hg1 hlt hge hle h1
   omega
  have h2 := Int.mul_le_mul_of_nonneg_left hn3 hg0
  have h3 := Int.mul_le_mul_of_nonneg_left hg1 hP
  have e : T / (top + 1) * (B32 ^ N * (top + 1)) = B32 ^ N * (T / (top + 1) * (top + 1)) := Int.mul_left_comm _ _ _
  rw [e] at h2
  generalize B32 ^ N * (T / (top + 1) * (top + 1)) = A at *
  generalize B32 ^ N * T = A2 at *
  generalize B32 ^ N * vB B32 (u.drop (K + N)) = A3 at *
  generalize T / (top + 1) * (n : Int) = A4 at *
  clear s2 s3 hg1 hlt hge hle hn1 hn2 hn3 e
  omega
 have hall : 1 ≤ mx 1 (T / (top + 1)) ∧ mx 1 (T / (top + 1)) * n ≤ R := by
  rcases mx_or 1 (T / (top + 1)) with ⟨h, h'⟩ | ⟨h, h'⟩
  ·rw [h, Int.one_mul]
   exact ⟨Int.le_refl _, hge⟩
  ·rw [h]
   exact ⟨h', key⟩
 refine ⟨⟨T0, T1⟩, ⟨t0, t1'⟩, hall.1, ?_, hall.2⟩
 rcases Int.lt_or_le (mx 1 (T / (top + 1))) B32 with h | h
 ·exact h
 ·exfalso
  have h1 := Int.mul_le_mul_of_nonneg_right h (show (0 : Int) ≤ n by omega)
  rw [Int.mul_comm B32] at h1
  have := hall.2
  clear hall key
  generalize mx 1 (T / (top + 1)) * (n : Int) = A at *
  generalize (n : Int) * B32 = A2 at *
  omega
theorem rdiv_l1 {n N K Lu Lq : Nat} {V : Int} (hn : 0 < n) (hN : (d32 n).length = N + 1) (hKN : K + (N + 1) < Lu) (hKq : K < Lq) (lu : Lu ≤ 1099511627776) {r : ByteArray × ByteArray}
  (next : ∀ u q : List Int, u.length = Lu → q.length = Lq → Dig B32 u → Dig B32 q → q.take K = List.replicate K 0 → vB B32 u + n * vB B32 q = V → vB B32 (u.drop K) < n → Ev (fun k => galoisref01_DivMod.l0 k (d32 n) ((N + 1 : Nat) : Int) u q ((K : Int) - 1)) r) :
  ∀ (R : Nat) (u q : List Int), u.length = Lu → q.length = Lq → Dig B32 u → Dig B32 q → q.take K = List.replicate K 0 → vB B32 u + n * vB B32 q = V → vB B32 (u.drop K) = R → rd q (K : Int) * n + R < n * B32 → Ev (fun k => galoisref01_DivMod.l1 k (d32 n) ((N + 1 : Nat) : Int) u q (K : Int)) r := by
 intro R
 induction R using Nat.strongRecOn with
 | _ R ih =>
  intro u q hlu hlq hu hq hz hV hR hb
  have hbe := below_ev (n := n) (Dig_drop hu K) (by rw [List.length_drop]; omega) hR (by omega)
  have c0 : (K : Int) ≤ (u.length : Int) := by omega
  refine Ev.step (fun k => galoisref01_DivMod.l1.eq_2 ..) ?_
  refine Ev.congr (fun k => if_pos (Int.natCast_nonneg K)) (Ev.congr (fun k => if_pos c0) ?_)
  refine Ev.bind hbe ?_
  have e0 : wrap64 ((K : Int) - 1) = (K : Int) - 1 := by clear hV hb hR; exact w64 (by omega) (by omega)
  have c1 : ((K + (N + 1) : Nat) : Int) < (u.length : Int) := by clear hV hb hR e0; omega
  have c2 : ((K + N : Nat) : Int) < (u.length : Int) := by clear hV hb hR e0; omega
  have c3 : (N : Int) < ((d32 n).length : Int) := by clear hV hb hR e0; omega
  have c5 : (K : Int) < (q.length : Int) := by clear hV hb hR e0; omega
  have cG : ∀ G : Int, rd q (K : Int) + G - rd q (K : Int) = G := fun G => by clear hV hb hR e0; omega
  by_cases hlt : R < n
  ·refine Ev.congr (fun k => if_pos (decide_eq_true hlt)) ?_
   rw [e0]
   exact next u q hlu hlq hu hq hz hV (by rw [hR]; exact Int.ofNat_lt.2 hlt)
  ·obtain ⟨q0, q1⟩ := Dig_rd hq K (by omega)
   have hq0n : 0 ≤ rd q (K : Int) * n := Int.mul_nonneg q0 (by omega)
   have hRB : (R : Int) < n * B32 := by
    generalize rd q (K : Int) * (n : Int) = A at *
    generalize (n : Int) * B32 = A2 at *
    clear hV
    omega
   obtain ⟨⟨T0, T1⟩, ⟨p0, p1⟩, g1, gB, gR⟩ := rguess hn hN (by omega) hu hR (by omega) hRB rfl rfl
   obtain ⟨T, hT⟩ : ∃ T, T = rd u ((K + (N + 1) : Nat) : Int) * 4294967296 + rd u ((K + N : Nat) : Int) := ⟨_, rfl⟩
   rw [← hT] at T0 T1 g1 gB gR
   obtain ⟨top, htop⟩ : ∃ top, top = rd (d32 n) (N : Int) := ⟨_, rfl⟩
   rw [← htop] at p0 p1 g1 gB gR
   obtain ⟨u0, u1⟩ := Dig_rd hu (K + (N + 1)) (by omega)
   obtain ⟨v0, v1⟩ := Dig_rd hu (K + N) (by omega)
   have u1' : rd u ((K + (N + 1) : Nat) : Int) < 4294967296 := u1
   have q1' : rd q (K : Int) < 4294967296 := q1
   have e1 : wrap64 ((K : Int) + ((N + 1 : Nat) : Int)) = ((K + (N + 1) : Nat) : Int) := by clear hV hb hR hT htop e0; rw [w64 (by omega) (by omega)]; omega
   have e2 : wrap64 (((K + (N + 1) : Nat) : Int) - 1) = ((K + N : Nat) : Int) := by clear hV hb hR hT htop e0 e1; rw [w64 (by omega) (by omega)]; omega
   have e3 : wrap64 (((N + 1 : Nat) : Int) - 1) = (N : Int) := by clear hV hb hR hT htop e0 e1 e2; rw [w64 (by omega) (by omega)]; omega
   have e4 : IntKind.u64.wrap (top + 1) = top + 1 := by clear hV hb hR hT htop e0 e1 e2 e3; exact u64 (by omega) (by omega)
   have e5 : IntKind.u64.wrap (rd u ((K + (N + 1) : Nat) : Int) * 4294967296) = rd u ((K + (N + 1) : Nat) : Int) * 4294967296 := by clear hV hb hR hT htop e0 e1 e2 e3 e4; exact u64 (by omega) (by omega)
   have e6 : IntKind.u64.wrap T = T := u64 T0 T1
   have d0 : 0 ≤ T / (top + 1) := Int.ediv_nonneg T0 (by clear hV hb hR hT htop e0 e1 e2 e3 e4 e5 e6; omega)
   have d1 : T / (top + 1) ≤ T := Int.ediv_le_self _ T0
   have e7 : IntKind.u64.wrap (Int.tdiv T (top + 1)) = T / (top + 1) := by
    rw [Int.tdiv_eq_ediv_of_nonneg T0]
    exact u64 d0 (Int.lt_of_le_of_lt d1 T1)
   obtain ⟨G, hG⟩ := Int.eq_ofNat_of_zero_le (show 0 ≤ mx 1 (T / (top + 1)) from Int.le_trans (by decide) g1)
   rw [hG] at g1 gB gR
   have gB' : (G : Int) < 4294967296 := gB
   have gR' : G * n ≤ R := by
    apply Int.ofNat_le.1
    rw [Int.natCast_mul]
    exact gR
   have hGn : n ≤ G * n := Nat.le_mul_of_pos_left _ (by clear hV hb hR hT htop e0 e1 e2 e3 e4 e5 e6 e7 hG gR gR'; omega)
   have hnew : (rd q (K : Int) + G) * n + ((R - G * n : Nat) : Int) < n * B32 := by
    rw [Int.add_mul, Int.ofNat_sub gR', Int.natCast_mul]
    generalize rd q (K : Int) * (n : Int) = A at *
    generalize (G : Int) * (n : Int) = A3 at *
    generalize (n : Int) * B32 = A2 at *
    clear hV e0 e1 e2 e3 e4 e5 e6 e7 hT htop hG
    omega
   have hdig : rd q (K : Int) + G < B32 := by
    rcases Int.lt_or_le (rd q (K : Int) + G) B32 with h | h
    ·exact h
    ·exfalso
     have h1 := Int.mul_le_mul_of_nonneg_right h (show (0 : Int) ≤ n by omega)
     rw [Int.mul_comm B32] at h1
     generalize (rd q (K : Int) + G) * (n : Int) = A at *
     generalize (n : Int) * B32 = A2 at *
     generalize R - G * n = A3 at *
     clear hV e0 e1 e2 e3 e4 e5 e6 e7 hT htop hG hb
     omega
   have hdig' : rd q (K : Int) + G < 4294967296 := hdig
   have e8 : IntKind.u64.wrap (rd q (K : Int) + (G : Int)) = rd q (K : Int) + G := by clear hV hb hR hT htop e0 e1 e2 e3 e4 e5 e6 e7 hG; exact u64 (by omega) (by omega)
   have hyv := d32_val n
   have k1 : K + (N + 1) < u.length := by rw [hlu]; exact hKN
   have k2 : u.length ≤ 1099511627776 := by rw [hlu]; exact lu
   have hl2 := rdiv_l2 (u := u) (y := d32 n) (q := q.set K (rd q (K : Int) + G)) (g := G) (K := K) (N := N + 1) hN k1 k2 hu (d32_dig n) (Int.natCast_nonneg G) gB (by rw [hyv, hR]; exact gR) (by rw [hyv, hR]; exact hRB) (r := r) (by
    intro z hlz hdz hvz hvz2
    rw [hyv, hR] at hvz
    rw [hyv] at hvz2
    refine ih (R - G * n) (by clear hV hb hR hT htop e0 e1 e2 e3 e4 e5 e6 e7 e8 hG hvz hvz2 hnew; omega) z _ (hlz.trans hlu) (by rw [List.length_set]; exact hlq) hdz (Dig_set hq K (Int.add_nonneg q0 (Int.natCast_nonneg G)) hdig) (by rw [take_set_far (Nat.le_refl K)]; exact hz) ?_ ?_ ?_
    ·rw [vB_set _ _ _ _ (by rw [hlq]; exact hKq), cG, Int.mul_add, Int.mul_left_comm (n : Int), Int.mul_comm (n : Int) (G : Int)]
     generalize B32 ^ K * ((G : Int) * (n : Int)) = A at *
     generalize (n : Int) * vB B32 q = A2 at *
     clear hb hR hT htop e0 e1 e2 e3 e4 e5 e6 e7 e8 hG hnew
     omega
    ·rw [hvz, Int.ofNat_sub gR', Int.natCast_mul]
    ·rw [rd_set_self _ _ _ (by rw [hlq]; exact hKq)]
     exact hnew) (N + 1) 0 u 0 (Nat.zero_add _) ⟨rfl, hu, ⟨by decide, by decide⟩, rfl, rfl, by simp [vB]⟩
   refine Ev.congr (fun k => ?_) hl2
   have c4 : ¬ top + 1 = 0 := Int.ne_of_gt (Int.lt_add_one_of_le p0)
   have c6 : ¬ decide (R < n) = true := by rw [decide_eq_true_eq]; exact hlt
   rw [if_neg c6]
   simp only [e1, e2, e3, ← htop, e4, e5, ← hT, e6, e7, hG, e8, Int.toNat_natCast]
   rw [if_pos (Int.natCast_nonneg _), if_pos c1, if_pos (Int.natCast_nonneg _), if_pos c2, if_pos (Int.natCast_nonneg _), if_pos c3, if_neg c4, if_pos c5]
   rfl
theorem rdiv_l0 {n N m Lu Lq : Nat} (hn : 0 < n) (hN : (d32 n).length = N + 1) (lu : Lu ≤ 1099511627776) (lq : Lq ≤ 1099511627776) : ∀ (K : Nat) (u q : List Int), K ≤ Lq → (K = 0 ∨ K + (N + 1) ≤ Lu) → u.length = Lu → q.length = Lq → Dig B32 u → Dig B32 q → q.take K = List.replicate K 0 → vB B32 u + n * vB B32 q = m → vB B32 (u.drop K) < n →
  Ev (fun k => galoisref01_DivMod.l0 k (d32 n) ((N + 1 : Nat) : Int) u q ((K : Int) - 1)) (nat (m / n), nat (m % n)) := by
 intro K
 induction K with
 | zero =>
  intro u q _ _ hlu hlq hu hq _ hV hR
  rw [List.drop_zero] at hR
  obtain ⟨U, hU⟩ := Int.eq_ofNat_of_zero_le (vB_nonneg (show (0 : Int) ≤ B32 by decide) hu)
  obtain ⟨Q, hQ⟩ := Int.eq_ofNat_of_zero_le (vB_nonneg (show (0 : Int) ≤ B32 by decide) hq)
  rw [hU] at hR hV
  rw [hQ] at hV
  have hm : m = U + n * Q := by
   apply Int.ofNat_inj.1
   rw [Int.natCast_add, Int.natCast_mul]
   exact hV.symm
  have hUn : U < n := Int.ofNat_lt.1 hR
  have pu := rpack_ev hu (by omega)
  have pq := rpack_ev hq (by omega)
  rw [hU, Int.toNat_natCast] at pu
  rw [hQ, Int.toNat_natCast] at pq
  have r1 : m / n = Q := by rw [hm, Nat.add_mul_div_left _ _ hn, Nat.div_eq_of_lt hUn, Nat.zero_add]
  have r2 : m % n = U := by rw [hm, Nat.add_mul_mod_self_left, Nat.mod_eq_of_lt hUn]
  rw [r1, r2]
  refine Ev.step (fun k => galoisref01_DivMod.l0.eq_2 ..) ?_
  refine Ev.congr (fun k => if_neg (by decide)) ?_
  exact Ev.bind pq (Ev.bind pu (Ev.now _))
 | succ K ih =>
  intro u q hK hK2 hlu hlq hu hq hz hV hR
  have hKN : K + (N + 1) < Lu := by omega
  have e0 : ((K + 1 : Nat) : Int) - 1 = (K : Int) := by omega
  rw [e0]
  obtain ⟨R, hR'⟩ := Int.eq_ofNat_of_zero_le (vB_nonneg (show (0 : Int) ≤ B32 by decide) (Dig_drop hu K))
  have s := drop_succ B32 u K (by omega)
  obtain ⟨u0, u1⟩ := Dig_rd hu K (by omega)
  have hq0 : rd q (K : Int) = 0 := by
   rw [← rd_take q (K + 1) K (by omega), hz, rd_replicate]
  have hz' : q.take K = List.replicate K 0 := by
   have h := congrArg (List.take K) hz
   rwa [List.take_take, Nat.min_eq_left (by omega), List.take_replicate, Nat.min_eq_left (by omega)] at h
  refine Ev.step (f := fun k => galoisref01_DivMod.l1 k (d32 n) ((N + 1 : Nat) : Int) u q (K : Int)) (fun k => (galoisref01_DivMod.l0.eq_2 ..).trans (if_pos (Int.natCast_nonneg K))) ?_
  refine rdiv_l1 (V := m) hn hN hKN hK lu (fun u' q' h1 h2 h3 h4 h5 h6 h7 => ih u' q' (by omega) (Or.inr (by omega)) h1 h2 h3 h4 h5 h6 h7) R u q hlu hlq hu hq hz' hV hR' ?_
  rw [hq0, Int.zero_mul, ← hR', s, Int.mul_comm (n : Int)]
  have h1 := Int.mul_le_mul_of_nonneg_left (show vB B32 (u.drop (K + 1)) + 1 ≤ n by omega) (show (0 : Int) ≤ B32 by decide)
  rw [Int.mul_add, Int.mul_one] at h1
  generalize B32 * vB B32 (u.drop (K + 1)) = A at *
  generalize B32 * (n : Int) = A2 at *
  clear hV s hR hR'
  omega
end Go.Proofs.YtdhdfcjpeflinaaN
