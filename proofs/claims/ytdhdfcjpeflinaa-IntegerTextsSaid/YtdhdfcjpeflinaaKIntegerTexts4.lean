/- Part of the proof of the statement IntegerTexts: lemmas on the model's steps, Lean functions that say what the program's functions compute, and proofs that the calls do just that. No hypothesis is added. -/
import Derived.Test.YtdhdfcjpeflinaaKIntegerTexts3
set_option linter.all false
set_option linter.unusedVariables false
set_option linter.unusedSimpArgs false
set_option maxRecDepth 100000
namespace Go.Proofs.YtdhdfcjpeflinaaV
open Go Go.RowKit Go.Proofs.Ytdhdfcjpeflinaa Go.Proofs.YtdhdfcjpeflinaaE Go.Proofs.YtdhdfcjpeflinaaW.PrintWords Go.Proofs.YtdhdfcjpeflinaaW.PrintLast Go.Proofs.YtdhdfcjpeflinaaW.PrintMore
theorem b124 (k : Nat) (x0 : Int) : LeO (FX124 k x0) (B124 x0) := by
 show LeO (All.exact_NatTwo.f x0) _
 unfold All.exact_NatTwo.f; unfold B124; (try simp only [All.integer_zero.f, All.exact_stepAt.f, All.S24.f0, All.S24.f1, All.rd_T24, All.z24]); exact BR
theorem ok124 (k : Nat) : FeOk Go.Proofs.Try.prog (fe124 (FX124 k)) :=
 fe_ok EOK HM (es := fun k => fes124) (fun k => List.forall_mem_nil _) (N := 15) (an := an124) (c := cd124) (f := 124) (fn := Go.Proofs.Try.f124) (rms := rm124) (ask := ask124) (rsk := rsk124) (enc := enc124) (dec := dec124) (tbl := []) (fun s => rfl) Go.Proofs.Try.func124 (by kernel_rfl) (by kernel_rfl) (by kernel_rfl) (fun k => les124)
  (List.forall_mem_nil _) (fun k s0 => .nil)
  (F := fun k s => FX124 k s.1.1) (fun k s r h => (e124 s).trans (b124 k s.1.1 r h)) k
@[reducible] noncomputable def GX110l0 (k : Nat) (x0 : ByteArray) (x1 : Int) (x5 : ByteArray) (x6 : Int) : Option R110 := All.exact_NatRoot.l0 k x0 x1 x5 x6
theorem b110l0 (k : Nat) (x0 : ByteArray) (x1 : Int) (x5 : ByteArray) (x6 : Int) : LeO (All.exact_NatRoot.l0 (k + 1) x0 x1 x5 x6) (B110l0 (GX110l0 k) (FX95 k) (FX107 k) (FX109 k) (FX124 k) x0 x1 x5 x6) := by rw [All.exact_NatRoot.l0]; unfold B110l0; (try simp only [GX110l0, FX67, FX95, FX107, FX109, FX124, All.integer_zero.f, All.exact_stepAt.f, All.S24.f0, All.S24.f1, All.rd_T24, All.z24]); exact BR
theorem b110 (k : Nat) (x0 : ByteArray) (x1 : Int) : LeO (FX110 k x0 x1) (B110 (GX110l0 k) (FX67 k) x0 x1) := by
 show LeO (All.exact_NatRoot.f k x0 x1) _
 unfold All.exact_NatRoot.f; unfold B110; (try simp only [GX110l0, FX67, FX95, FX107, FX109, FX124, All.integer_zero.f, All.exact_stepAt.f, All.S24.f0, All.S24.f1, All.rd_T24, All.z24]); exact BR
theorem ok110 (k : Nat) : FeOk Go.Proofs.Try.prog (fe110 (FX110 k)) :=
 fe_ok EOK HM (es := fun k => fes110 (FX67 k) (FX95 k) (FX107 k) (FX109 k) (FX124 k)) (fun k => List.forall_mem_cons.2 ⟨ok67 k, List.forall_mem_cons.2 ⟨ok95 k, List.forall_mem_cons.2 ⟨ok107 k, List.forall_mem_cons.2 ⟨ok109 k, List.forall_mem_cons.2 ⟨ok124 k, List.forall_mem_nil _⟩⟩⟩⟩⟩) (N := 31) (an := an110) (c := cd110) (f := 110) (fn := Go.Proofs.Try.f110) (rms := rm110) (ask := ask110) (rsk := rsk110) (enc := enc110) (dec := dec110) (tbl := [p110.getD 0 ⟨0, [], .skip⟩]) (fun s => rfl) Go.Proofs.Try.func110 (by kernel_rfl) (by kernel_rfl) (by kernel_rfl) (fun k => les110 (GX110l0 k))
  (List.forall_mem_cons.2 ⟨fun s => rfl, List.forall_mem_nil _⟩) (fun k s0 => .cons (by kernel_rfl) (by kernel_rfl) (fun s r h => (e110l0 (GX110l0 k) (FX67 k) (FX95 k) (FX107 k) (FX109 k) (FX124 k) s0 s).trans (b110l0 k s.1.1 s.1.2.1 s.1.2.2.1 s.1.2.2.2.1 r h)) (.nil))
  (F := fun k s => FX110 k s.1.1 s.1.2.1) (fun k s r h => (e110 (GX110l0 k) (FX67 k) (FX95 k) (FX107 k) (FX109 k) (FX124 k) s).trans (b110 k s.1.1 s.1.2.1 r h)) k
theorem b76 (k : Nat) (x0 : (Bool × ByteArray)) : LeO (FX76 k x0) (B76 (FX108 k) (FX110 k) x0) := by
 show LeO (All.exact_IntSqrt.f k x0.1 x0.2) _
 unfold All.exact_IntSqrt.f; unfold B76; (try simp only [FX108, FX110, All.integer_zero.f, All.exact_stepAt.f, All.S24.f0, All.S24.f1, All.rd_T24, All.z24]); exact BR
theorem ok76 (k : Nat) : FeOk Go.Proofs.Try.prog (fe76 (FX76 k)) :=
 fe_ok EOK HM (es := fun k => fes76 (FX108 k) (FX110 k)) (fun k => List.forall_mem_cons.2 ⟨ok108 k, List.forall_mem_cons.2 ⟨ok110 k, List.forall_mem_nil _⟩⟩) (N := 20) (an := an76) (c := cd76) (f := 76) (fn := Go.Proofs.Try.f76) (rms := rm76) (ask := ask76) (rsk := rsk76) (enc := enc76) (dec := dec76) (tbl := []) (fun s => rfl) Go.Proofs.Try.func76 (by kernel_rfl) (by kernel_rfl) (by kernel_rfl) (fun k => les76)
  (List.forall_mem_nil _) (fun k s0 => .nil)
  (F := fun k s => FX76 k s.1.1) (fun k s r h => (e76 (FX108 k) (FX110 k) s).trans (b76 k s.1.1 r h)) k
theorem b28 (k : Nat) (x0 : (Bool × ByteArray)) : LeO (FX28 k x0) (B28 (FX33 k) (FX53 k) (FX76 k) x0) := by
 show LeO (All.integer_IsSquare.f k x0.1 x0.2) _
 unfold All.integer_IsSquare.f; unfold B28; (try simp only [FX33, FX53, FX76, All.integer_zero.f, All.exact_stepAt.f, All.S24.f0, All.S24.f1, All.rd_T24, All.z24]); exact BR
theorem ok28 (k : Nat) : FeOk Go.Proofs.Try.prog (fe28 (FX28 k)) :=
 fe_ok EOK HM (es := fun k => fes28 (FX33 k) (FX53 k) (FX76 k)) (fun k => List.forall_mem_cons.2 ⟨ok33 k, List.forall_mem_cons.2 ⟨ok53 k, List.forall_mem_cons.2 ⟨ok76 k, List.forall_mem_nil _⟩⟩⟩) (N := 21) (an := an28) (c := cd28) (f := 28) (fn := Go.Proofs.Try.f28) (rms := rm28) (ask := ask28) (rsk := rsk28) (enc := enc28) (dec := dec28) (tbl := []) (fun s => rfl) Go.Proofs.Try.func28 (by kernel_rfl) (by kernel_rfl) (by kernel_rfl) (fun k => les28)
  (List.forall_mem_nil _) (fun k s0 => .nil)
  (F := fun k s => FX28 k s.1.1) (fun k s r h => (e28 (FX33 k) (FX53 k) (FX76 k) s).trans (b28 k s.1.1 r h)) k
theorem b12 (k : Nat) : LeO (FX12 k) (B12 (FX14 k) (FX15 k) (FX16 k) (FX27 k) (FX28 k) (FX30 k)) := by
 show LeO (All.galoislaw02_awake.f k) _
 unfold All.galoislaw02_awake.f
 unfold B12
 (try simp only [FX14, FX15, FX16, FX27, FX28, FX30, All.integer_zero.f, All.exact_stepAt.f, All.S24.f0, All.S24.f1, All.rd_T24, All.z24])
 (try simp only [List.take_append_drop, List.drop_length, List.append_nil, Int.zero_sub, Int.toNat_natCast, Int.reduceToNat, Int.zero_add, List.take_zero, List.nil_append, List.append_assoc, List.length_set, ite_bind_, List.take_left, BAe, bne, decide_int_eq, decide_not, wrap_mod, if_true, if_false, Bool.false_eq_true, bind_assoc_, slice_def, List.drop_zero, List.take_length, wrap_u8, bind_some_, cnd_eq_if, rdOf, ite_not, Bool.and_eq_true, Bool.or_eq_true, Bool.not_eq_true', bfalse, Bool.not_eq_false', beq_iff_eq, decide_eq_true_eq, isEmpty_eq, ite_and_, ite_or_, ne_eq, toList_mk, List.toList_toArray])
 repeat' first
 | (with_reducible refine LeO.trans ((All.galoislaw02_awake.mono_l k) _ _ _ _ _ _ _ _ _ _ _ _ _ _ _ _) ?_; rw [All.galoislaw02_awake.j0]; (try simp only [if_true, if_false, decide_eq_true_eq, Bool.false_eq_true, decide_not, ite_not, bne, decide_int_eq, beq_iff_eq, Bool.not_eq_true', bfalse, toList_mk, List.toList_toArray, ite_and_, ite_or_, Bool.and_eq_true, Bool.or_eq_true, isEmpty_eq, wrap_mod, wrap_u8, All.integer_zero.f, bind_some_, Int.toNat_natCast, Int.reduceToNat, Int.zero_sub, BAe]))
 | (with_reducible exact LeO.none _)
 | (with_reducible exact LeO.refl _)
 | (with_reducible refine LeO.posR (by with_reducible assumption) ?_)
 | (with_reducible refine LeO.negR (by with_reducible assumption) ?_)
 | (with_reducible refine LeO.bindR (by with_reducible assumption) ?_)
 | (with_reducible refine LeO.posL (by with_reducible assumption) ?_)
 | (with_reducible refine LeO.negL (by with_reducible assumption) ?_)
 | (with_reducible refine LeO.iteL (fun _ => ?_) (fun _ => ?_))
 | (with_reducible refine LeO.bindK (by with_reducible assumption) ?_)
 | (with_reducible refine LeO.bindL (fun _ _ => ?_))
 | (refine LeO.posR (by first | decide | exact Int.le_refl _ | omega | assumption) ?_)
 | (refine LeO.negR (by first | decide | omega) ?_)
theorem ok12 (k : Nat) : FeOk Go.Proofs.Try.prog (fe12 (FX12 k)) :=
 fe_ok EOK HM (es := fun k => fes12 (FX14 k) (FX15 k) (FX16 k) (FX27 k) (FX28 k) (FX30 k)) (fun k => List.forall_mem_cons.2 ⟨ok14 k, List.forall_mem_cons.2 ⟨ok15 k, List.forall_mem_cons.2 ⟨ok16 k, List.forall_mem_cons.2 ⟨ok27 k, List.forall_mem_cons.2 ⟨ok28 k, List.forall_mem_cons.2 ⟨ok30 k, List.forall_mem_nil _⟩⟩⟩⟩⟩⟩) (N := 127) (an := an12) (c := cd12) (f := 12) (fn := Go.Proofs.Try.f12) (rms := rm12) (ask := ask12) (rsk := rsk12) (enc := enc12) (dec := dec12) (tbl := []) (fun s => rfl) Go.Proofs.Try.func12 (by kernel_rfl) (by kernel_rfl) (by kernel_rfl) (fun k => les12)
  (List.forall_mem_nil _) (fun k s0 => .nil)
  (F := fun k s => FX12 k) (fun k s r h => (e12 (FX14 k) (FX15 k) (FX16 k) (FX27 k) (FX28 k) (FX30 k) s).trans (b12 k r h)) k
theorem b101 (k : Nat) (x0 : ByteArray) : LeO (FX101 k x0) (B101 x0) := by
 show LeO (All.galoisref01_Valid.f x0) _
 unfold All.galoisref01_Valid.f; unfold B101; (try simp only [All.integer_zero.f, All.exact_stepAt.f, All.S24.f0, All.S24.f1, All.rd_T24, All.z24]); exact BR
theorem ok101 (k : Nat) : FeOk Go.Proofs.Try.prog (fe101 (FX101 k)) :=
 fe_ok EOK HM (es := fun k => fes101) (fun k => List.forall_mem_nil _) (N := 10) (an := an101) (c := cd101) (f := 101) (fn := Go.Proofs.Try.f101) (rms := rm101) (ask := ask101) (rsk := rsk101) (enc := enc101) (dec := dec101) (tbl := []) (fun s => rfl) Go.Proofs.Try.func101 (by kernel_rfl) (by kernel_rfl) (by kernel_rfl) (fun k => les101)
  (List.forall_mem_nil _) (fun k s0 => .nil)
  (F := fun k s => FX101 k s.1.1) (fun k s r h => (e101 s).trans (b101 k s.1.1 r h)) k
theorem b58 (k : Nat) (x0 : (Bool × ByteArray)) : LeO (FX58 k x0) (B58 (FX101 k) x0) := by
 show LeO (All.galoisref02_Valid.f x0.1 x0.2) _
 unfold All.galoisref02_Valid.f; unfold B58; (try simp only [FX101, All.integer_zero.f, All.exact_stepAt.f, All.S24.f0, All.S24.f1, All.rd_T24, All.z24]); exact BR
theorem ok58 (k : Nat) : FeOk Go.Proofs.Try.prog (fe58 (FX58 k)) :=
 fe_ok EOK HM (es := fun k => fes58 (FX101 k)) (fun k => List.forall_mem_cons.2 ⟨ok101 k, List.forall_mem_nil _⟩) (N := 16) (an := an58) (c := cd58) (f := 58) (fn := Go.Proofs.Try.f58) (rms := rm58) (ask := ask58) (rsk := rsk58) (enc := enc58) (dec := dec58) (tbl := []) (fun s => rfl) Go.Proofs.Try.func58 (by kernel_rfl) (by kernel_rfl) (by kernel_rfl) (fun k => les58)
  (List.forall_mem_nil _) (fun k s0 => .nil)
  (F := fun k s => FX58 k s.1.1) (fun k s r h => (e58 (FX101 k) s).trans (b58 k s.1.1 r h)) k
theorem b102 (k : Nat) (x0 : ByteArray) : LeO (FX102 k x0) (B102 x0) := by
 show LeO (All.galoisref01_Fits.f x0) _
 unfold All.galoisref01_Fits.f; unfold B102; (try simp only [All.integer_zero.f, All.exact_stepAt.f, All.S24.f0, All.S24.f1, All.rd_T24, All.z24]); exact BR
theorem ok102 (k : Nat) : FeOk Go.Proofs.Try.prog (fe102 (FX102 k)) :=
 fe_ok EOK HM (es := fun k => fes102) (fun k => List.forall_mem_nil _) (N := 6) (an := an102) (c := cd102) (f := 102) (fn := Go.Proofs.Try.f102) (rms := rm102) (ask := ask102) (rsk := rsk102) (enc := enc102) (dec := dec102) (tbl := []) (fun s => rfl) Go.Proofs.Try.func102 (by kernel_rfl) (by kernel_rfl) (by kernel_rfl) (fun k => les102)
  (List.forall_mem_nil _) (fun k s0 => .nil)
  (F := fun k s => FX102 k s.1.1) (fun k s r h => (e102 s).trans (b102 k s.1.1 r h)) k
theorem b59 (k : Nat) (x0 : (Bool × ByteArray)) : LeO (FX59 k x0) (B59 (FX102 k) x0) := by
 show LeO (All.galoisref02_Fits.f x0.1 x0.2) _
 unfold All.galoisref02_Fits.f; unfold B59; (try simp only [FX102, All.integer_zero.f, All.exact_stepAt.f, All.S24.f0, All.S24.f1, All.rd_T24, All.z24]); exact BR
theorem ok59 (k : Nat) : FeOk Go.Proofs.Try.prog (fe59 (FX59 k)) :=
 fe_ok EOK HM (es := fun k => fes59 (FX102 k)) (fun k => List.forall_mem_cons.2 ⟨ok102 k, List.forall_mem_nil _⟩) (N := 6) (an := an59) (c := cd59) (f := 59) (fn := Go.Proofs.Try.f59) (rms := rm59) (ask := ask59) (rsk := rsk59) (enc := enc59) (dec := dec59) (tbl := []) (fun s => rfl) Go.Proofs.Try.func59 (by kernel_rfl) (by kernel_rfl) (by kernel_rfl) (fun k => les59)
  (List.forall_mem_nil _) (fun k s0 => .nil)
  (F := fun k s => FX59 k s.1.1) (fun k s r h => (e59 (FX102 k) s).trans (b59 k s.1.1 r h)) k
theorem b17 (k : Nat) (x0 : (Bool × ByteArray)) : LeO (FX17 k x0) (B17 (FX58 k) (FX59 k) x0) := by
 show LeO (All.galoisref02_Check.f x0.1 x0.2) _
 unfold All.galoisref02_Check.f; unfold B17; (try simp only [FX58, FX59, All.integer_zero.f, All.exact_stepAt.f, All.S24.f0, All.S24.f1, All.rd_T24, All.z24]); exact BR
theorem ok17 (k : Nat) : FeOk Go.Proofs.Try.prog (fe17 (FX17 k)) :=
 fe_ok EOK HM (es := fun k => fes17 (FX58 k) (FX59 k)) (fun k => List.forall_mem_cons.2 ⟨ok58 k, List.forall_mem_cons.2 ⟨ok59 k, List.forall_mem_nil _⟩⟩) (N := 8) (an := an17) (c := cd17) (f := 17) (fn := Go.Proofs.Try.f17) (rms := rm17) (ask := ask17) (rsk := rsk17) (enc := enc17) (dec := dec17) (tbl := []) (fun s => rfl) Go.Proofs.Try.func17 (by kernel_rfl) (by kernel_rfl) (by kernel_rfl) (fun k => les17)
  (List.forall_mem_nil _) (fun k s0 => .nil)
  (F := fun k s => FX17 k s.1.1) (fun k s r h => (e17 (FX58 k) (FX59 k) s).trans (b17 k s.1.1 r h)) k
theorem b19 (k : Nat) (x0 : (Bool × ByteArray)) (x1 : Int) (x2 : Int) (x3 : (Bool × ByteArray)) : LeO (FX19 k x0 x1 x2 x3) (B19 (FX59 k) x0 x1 x2 x3) := by
 show LeO (All.galoislaw02_right.f x0.1 x0.2 x1 x2 x3.1 x3.2) _
 unfold All.galoislaw02_right.f; unfold B19; (try simp only [FX59, All.integer_zero.f, All.exact_stepAt.f, All.S24.f0, All.S24.f1, All.rd_T24, All.z24]); exact BR
theorem ok19 (k : Nat) : FeOk Go.Proofs.Try.prog (fe19 (FX19 k)) :=
 fe_ok EOK HM (es := fun k => fes19 (FX59 k)) (fun k => List.forall_mem_cons.2 ⟨ok59 k, List.forall_mem_nil _⟩) (N := 30) (an := an19) (c := cd19) (f := 19) (fn := Go.Proofs.Try.f19) (rms := rm19) (ask := ask19) (rsk := rsk19) (enc := enc19) (dec := dec19) (tbl := []) (fun s => rfl) Go.Proofs.Try.func19 (by kernel_rfl) (by kernel_rfl) (by kernel_rfl) (fun k => les19)
  (List.forall_mem_nil _) (fun k s0 => .nil)
  (F := fun k s => FX19 k s.1.1 s.1.2.1 s.1.2.2.1 s.1.2.2.2.1) (fun k s r h => (e19 (FX59 k) s).trans (b19 k s.1.1 s.1.2.1 s.1.2.2.1 s.1.2.2.2.1 r h)) k
theorem ok117 (k : Nat) : FeOk Go.Proofs.Try.prog (fe117 (FX117 k)) :=
 fe_ok EOK HM (es := fun k => fes117) (fun k => List.forall_mem_nil _) (N := 21) (an := an117) (c := cd117) (f := 117) (fn := Go.Proofs.Try.f117) (rms := rm117) (ask := ask117) (rsk := rsk117) (enc := enc117) (dec := dec117) (tbl := [p117.getD 0 ⟨0, [], .skip⟩]) (fun s => rfl) Go.Proofs.Try.func117 (by kernel_rfl) (by kernel_rfl) (by kernel_rfl) (fun k => les117 (GX117l0 k))
  (List.forall_mem_cons.2 ⟨fun s => by show ite _ _ _ = none; split <;> rfl, List.forall_mem_nil _⟩) (fun k s0 => .cons (by kernel_rfl) (by kernel_rfl) (fun s r h => (e117l0 (GX117l0 k) s0 s).trans (b117l0 k s.1.1 s.2.1 r h)) (.nil))
  (F := fun k s => FX117 k s.2.1) (fun k s r h => (e117 (GX117l0 k) s).trans (b117 k s.2.1 r h)) k
@[reducible] noncomputable def GX103l0 (k : Nat) (x0 : ByteArray) (x4 : Int) (x3 : (List Int)) : Option R103 := All.galoisref01_limbs.l0 k x0 x3 x4
@[reducible] noncomputable def GX103l1 (k : Nat) (x0 : ByteArray) (x4 : Int) (x5 : Int) (x6 : Int) (x3 : (List Int)) : Option R103 := All.galoisref01_limbs.l1 k x0 x3 x4 x5 x6
theorem b103l0 (k : Nat) (x0 : ByteArray) (x4 : Int) (x3 : (List Int)) : LeO (All.galoisref01_limbs.l0 (k + 1) x0 x3 x4) (B103l0 (GX103l1 k) (FX117 k) x0 x4 x3) := by rw [All.galoisref01_limbs.l0]; unfold B103l0; (try simp only [GX103l0, GX103l1, FX117, All.integer_zero.f, All.exact_stepAt.f, All.S24.f0, All.S24.f1, All.rd_T24, All.z24]); exact BR
theorem b103l1 (k : Nat) (x0 : ByteArray) (x4 : Int) (x5 : Int) (x6 : Int) (x3 : (List Int)) : LeO (All.galoisref01_limbs.l1 (k + 1) x0 x3 x4 x5 x6) (B103l1 (GX103l0 k) (GX103l1 k) x0 x4 x5 x6 x3) := by rw [All.galoisref01_limbs.l1]; unfold B103l1; (try simp only [GX103l0, GX103l1, FX117, All.integer_zero.f, All.exact_stepAt.f, All.S24.f0, All.S24.f1, All.rd_T24, All.z24]); exact BR
theorem b103 (k : Nat) (x0 : ByteArray) : LeO (FX103 k x0) (B103 (GX103l0 k) x0) := by
 show LeO (All.galoisref01_limbs.f k x0) _
 unfold All.galoisref01_limbs.f; unfold B103; (try simp only [GX103l0, GX103l1, FX117, All.integer_zero.f, All.exact_stepAt.f, All.S24.f0, All.S24.f1, All.rd_T24, All.z24]); exact BR
theorem ok103 (k : Nat) : FeOk Go.Proofs.Try.prog (fe103 (FX103 k)) :=
 fe_ok EOK HM (es := fun k => fes103 (FX117 k)) (fun k => List.forall_mem_cons.2 ⟨ok117 k, List.forall_mem_nil _⟩) (N := 34) (an := an103) (c := cd103) (f := 103) (fn := Go.Proofs.Try.f103) (rms := rm103) (ask := ask103) (rsk := rsk103) (enc := enc103) (dec := dec103) (tbl := [p103.getD 0 ⟨0, [], .skip⟩, p103.getD 1 ⟨0, [], .skip⟩]) (fun s => rfl) Go.Proofs.Try.func103 (by kernel_rfl) (by kernel_rfl) (by kernel_rfl) (fun k => les103 (GX103l0 k) (GX103l1 k))
  (List.forall_mem_cons.2 ⟨fun s => rfl, List.forall_mem_cons.2 ⟨fun s => rfl, List.forall_mem_nil _⟩⟩) (fun k s0 => .cons (by kernel_rfl) (by kernel_rfl) (fun s r h => (e103l0 (GX103l0 k) (GX103l1 k) (FX117 k) s0 s).trans (b103l0 k s.1.1 s.1.2.1 s.2.1 r h)) (.cons (by kernel_rfl) (by kernel_rfl) (fun s r h => (e103l1 (GX103l0 k) (GX103l1 k) (FX117 k) s0 s).trans (b103l1 k s.1.1 s.1.2.1 s.1.2.2.1 s.1.2.2.2.1 s.2.1 r h)) (.nil)))
  (F := fun k s => FX103 k s.1.1) (fun k s r h => (e103 (GX103l0 k) (GX103l1 k) (FX117 k) s).trans (b103 k s.1.1 r h)) k
end Go.Proofs.YtdhdfcjpeflinaaV
set_option linter.unusedVariables false
set_option linter.unusedSimpArgs false
set_option maxRecDepth 100000
namespace Go.Proofs.YtdhdfcjpeflinaaV
open Go Go.RowKit Go.Proofs.Ytdhdfcjpeflinaa Go.Proofs.YtdhdfcjpeflinaaE Go.Proofs.YtdhdfcjpeflinaaW.PrintWords Go.Proofs.YtdhdfcjpeflinaaW.PrintLast Go.Proofs.YtdhdfcjpeflinaaW.PrintMore
theorem b65 (k : Nat) (x0 : Bool) (x1 : ByteArray) : LeO (FX65 k x0 x1) (B65 x0 x1) := by
 show LeO (All.galoisref02_Make.f x0 x1) _
 unfold All.galoisref02_Make.f; unfold B65; (try simp only [All.integer_zero.f, All.exact_stepAt.f, All.S24.f0, All.S24.f1, All.rd_T24, All.z24]); exact BR
theorem ok65 (k : Nat) : FeOk Go.Proofs.Try.prog (fe65 (FX65 k)) :=
 fe_ok EOK HM (es := fun k => fes65) (fun k => List.forall_mem_nil _) (N := 12) (an := an65) (c := cd65) (f := 65) (fn := Go.Proofs.Try.f65) (rms := rm65) (ask := ask65) (rsk := rsk65) (enc := enc65) (dec := dec65) (tbl := []) (fun s => rfl) Go.Proofs.Try.func65 (by kernel_rfl) (by kernel_rfl) (by kernel_rfl) (fun k => les65)
  (List.forall_mem_nil _) (fun k s0 => .nil)
  (F := fun k s => FX65 k s.1.1 s.1.2.1) (fun k s r h => (e65 s).trans (b65 k s.1.1 s.1.2.1 r h)) k
end Go.Proofs.YtdhdfcjpeflinaaV
set_option linter.unusedVariables false
set_option linter.unusedSimpArgs false
set_option maxRecDepth 100000
namespace Go.Proofs.YtdhdfcjpeflinaaV
open Go Go.RowKit Go.Proofs.Ytdhdfcjpeflinaa Go.Proofs.YtdhdfcjpeflinaaE Go.Proofs.YtdhdfcjpeflinaaW.PrintWords Go.Proofs.YtdhdfcjpeflinaaW.PrintLast Go.Proofs.YtdhdfcjpeflinaaW.PrintMore
theorem b111 (k : Nat) (x0 : ByteArray) : LeO (FX111 k x0) (B111 (FX119 k) x0) := by
 show LeO (All.exact_NatUint.f k x0) _
 unfold All.exact_NatUint.f; unfold B111; (try simp only [FX119, All.integer_zero.f, All.exact_stepAt.f, All.S24.f0, All.S24.f1, All.rd_T24, All.z24]); exact BR
theorem ok111 (k : Nat) : FeOk Go.Proofs.Try.prog (fe111 (FX111 k)) :=
 fe_ok EOK HM (es := fun k => fes111 (FX119 k)) (fun k => List.forall_mem_cons.2 ⟨ok119 k, List.forall_mem_nil _⟩) (N := 16) (an := an111) (c := cd111) (f := 111) (fn := Go.Proofs.Try.f111) (rms := rm111) (ask := ask111) (rsk := rsk111) (enc := enc111) (dec := dec111) (tbl := []) (fun s => rfl) Go.Proofs.Try.func111 (by kernel_rfl) (by kernel_rfl) (by kernel_rfl) (fun k => les111)
  (List.forall_mem_nil _) (fun k s0 => .nil)
  (F := fun k s => FX111 k s.1.1) (fun k s r h => (e111 (FX119 k) s).trans (b111 k s.1.1 r h)) k
@[reducible] noncomputable def GX113l0 (k : Nat) (x6 : (List ByteArray)) (x7 : Int) (x8 : Int) : Option R113 := All.natural_first.l0 k x6 x7 x8
theorem b113l0 (k : Nat) (x6 : (List ByteArray)) (x7 : Int) (x8 : Int) : LeO (All.natural_first.l0 (k + 1) x6 x7 x8) (B113l0 (GX113l0 k) (FX82 k) x6 x7 x8) := by rw [All.natural_first.l0]; unfold B113l0; (try simp only [GX113l0, FX82, All.integer_zero.f, All.exact_stepAt.f, All.S24.f0, All.S24.f1, All.rd_T24, All.z24]); exact BR
theorem b113 (k : Nat) (x0 : (List ByteArray)) : LeO (FX113 k x0) (B113 (GX113l0 k) x0) := by
 show LeO (All.natural_first.f k x0) _
 unfold All.natural_first.f; unfold B113; (try simp only [GX113l0, FX82, All.integer_zero.f, All.exact_stepAt.f, All.S24.f0, All.S24.f1, All.rd_T24, All.z24]); exact BR
theorem ok113 (k : Nat) : FeOk Go.Proofs.Try.prog (fe113 (FX113 k)) :=
 fe_ok EOK HM (es := fun k => fes113 (FX82 k)) (fun k => List.forall_mem_cons.2 ⟨ok82 k, List.forall_mem_nil _⟩) (N := 18) (an := an113) (c := cd113) (f := 113) (fn := Go.Proofs.Try.f113) (rms := rm113) (ask := ask113) (rsk := rsk113) (enc := enc113) (dec := dec113) (tbl := [p113.getD 0 ⟨0, [], .skip⟩]) (fun s => rfl) Go.Proofs.Try.func113 (by kernel_rfl) (by kernel_rfl) (by kernel_rfl) (fun k => les113 (GX113l0 k))
  (List.forall_mem_cons.2 ⟨fun s => rfl, List.forall_mem_nil _⟩) (fun k s0 => .cons (by kernel_rfl) (by kernel_rfl) (fun s r h => (e113l0 (GX113l0 k) (FX82 k) s0 s).trans (b113l0 k s.1.1 s.1.2.1 s.1.2.2.1 r h)) (.nil))
  (F := fun k s => FX113 k s.1.1) (fun k s r h => (e113 (GX113l0 k) (FX82 k) s).trans (b113 k s.1.1 r h)) k
theorem b115 (k : Nat) (x0 : ByteArray) : LeO (FX115 k x0) (B115 x0) := by
 show LeO (All.natural_bounded.f x0) _
 unfold All.natural_bounded.f; unfold B115; (try simp only [All.integer_zero.f, All.exact_stepAt.f, All.S24.f0, All.S24.f1, All.rd_T24, All.z24]); exact BR
theorem ok115 (k : Nat) : FeOk Go.Proofs.Try.prog (fe115 (FX115 k)) :=
 fe_ok EOK HM (es := fun k => fes115) (fun k => List.forall_mem_nil _) (N := 8) (an := an115) (c := cd115) (f := 115) (fn := Go.Proofs.Try.f115) (rms := rm115) (ask := ask115) (rsk := rsk115) (enc := enc115) (dec := dec115) (tbl := []) (fun s => rfl) Go.Proofs.Try.func115 (by kernel_rfl) (by kernel_rfl) (by kernel_rfl) (fun k => les115)
  (List.forall_mem_nil _) (fun k s0 => .nil)
  (F := fun k s => FX115 k s.1.1) (fun k s r h => (e115 s).trans (b115 k s.1.1 r h)) k
@[reducible] noncomputable def GX116l0 (k : Nat) (x0 : ByteArray) (x5 : Int) (x4 : (List Int)) : Option R116 := All.galoisref01_Digits.l0 k x0 x4 x5
@[reducible] noncomputable def GX116l1 (k : Nat) (x0 : ByteArray) (x5 : Int) (x6 : Int) (x7 : Int) (x31 : ByteArray) (x32 : Int) (x33 : Int) (x34 : Bool) (x4 : (List Int)) : Option R116 := All.galoisref01_Digits.l1 k x0 x4 x5 x6 x7
theorem b116l0 (k : Nat) (x0 : ByteArray) (x5 : Int) (x4 : (List Int)) : LeO (All.galoisref01_Digits.l0 (k + 1) x0 x4 x5) (B116l0 (GX116l1 k) (FX105 k) x0 x5 x4) := by
 rw [All.galoisref01_Digits.l0]
 unfold B116l0
 (try simp only [GX116l0, GX116l1, FX105, All.integer_zero.f, All.exact_stepAt.f, All.S24.f0, All.S24.f1, All.rd_T24, All.z24])
 (try simp only [List.take_append_drop, List.drop_length, List.append_nil, Int.zero_sub, Int.toNat_natCast, Int.reduceToNat, Int.zero_add, List.take_zero, List.nil_append, List.append_assoc, List.length_set, ite_bind_, List.take_left, BAe, bne, decide_int_eq, decide_not, wrap_mod, if_true, if_false, Bool.false_eq_true, bind_assoc_, slice_def, List.drop_zero, List.take_length, wrap_u8, bind_some_, cnd_eq_if, rdOf, ite_not, Bool.and_eq_true, Bool.or_eq_true, Bool.not_eq_true', bfalse, Bool.not_eq_false', beq_iff_eq, decide_eq_true_eq, isEmpty_eq, ite_and_, ite_or_, ne_eq, toList_mk, List.toList_toArray])
 repeat' first
 | (with_reducible refine LeO.trans ((All.galoisref01_Digits.mono_l k).1 _ _) ?_; rw [All.galoisref01_Digits.j0]; (try simp only [if_true, if_false, decide_eq_true_eq, Bool.false_eq_true, decide_not, ite_not, bne, decide_int_eq, beq_iff_eq, Bool.not_eq_true', bfalse, toList_mk, List.toList_toArray, ite_and_, ite_or_, Bool.and_eq_true, Bool.or_eq_true, isEmpty_eq, wrap_mod, wrap_u8, All.integer_zero.f, bind_some_, Int.toNat_natCast, Int.reduceToNat, Int.zero_sub, BAe]))
 | (with_reducible refine LeO.trans ((All.galoisref01_Digits.mono_l k).2.2.1 _ _ _ _) ?_; rw [All.galoisref01_Digits.j2]; (try simp only [if_true, if_false, decide_eq_true_eq, Bool.false_eq_true, decide_not, ite_not, bne, decide_int_eq, beq_iff_eq, Bool.not_eq_true', bfalse, toList_mk, List.toList_toArray, ite_and_, ite_or_, Bool.and_eq_true, Bool.or_eq_true, isEmpty_eq, wrap_mod, wrap_u8, All.integer_zero.f, bind_some_, Int.toNat_natCast, Int.reduceToNat, Int.zero_sub, BAe]))
 | (with_reducible exact LeO.none _)
 | (with_reducible exact LeO.refl _)
 | (with_reducible refine LeO.posR (by with_reducible assumption) ?_)
 | (with_reducible refine LeO.negR (by with_reducible assumption) ?_)
 | (with_reducible refine LeO.bindR (by with_reducible assumption) ?_)
 | (with_reducible refine LeO.posL (by with_reducible assumption) ?_)
 | (with_reducible refine LeO.negL (by with_reducible assumption) ?_)
 | (with_reducible refine LeO.iteL (fun _ => ?_) (fun _ => ?_))
 | (with_reducible refine LeO.bindK (by with_reducible assumption) ?_)
 | (with_reducible refine LeO.bindL (fun _ _ => ?_))
 | (refine LeO.posR (by first | decide | exact Int.le_refl _ | omega | assumption) ?_)
 | (refine LeO.negR (by first | decide | omega) ?_)
theorem b116l1 (k : Nat) (x0 : ByteArray) (x5 : Int) (x6 : Int) (x7 : Int) (x31 : ByteArray) (x32 : Int) (x33 : Int) (x34 : Bool) (x4 : (List Int)) : LeO (All.galoisref01_Digits.l1 (k + 1) x0 x4 x5 x6 x7) (B116l1 (GX116l0 k) (GX116l1 k) x0 x5 x6 x7 x31 x32 x33 x34 x4) := by
 rw [All.galoisref01_Digits.l1]
 unfold B116l1
 (try simp only [GX116l0, GX116l1, FX105, All.integer_zero.f, All.exact_stepAt.f, All.S24.f0, All.S24.f1, All.rd_T24, All.z24])
 (try simp only [List.take_append_drop, List.drop_length, List.append_nil, Int.zero_sub, Int.toNat_natCast, Int.reduceToNat, Int.zero_add, List.take_zero, List.nil_append, List.append_assoc, List.length_set, ite_bind_, List.take_left, BAe, bne, decide_int_eq, decide_not, wrap_mod, if_true, if_false, Bool.false_eq_true, bind_assoc_, slice_def, List.drop_zero, List.take_length, wrap_u8, bind_some_, cnd_eq_if, rdOf, ite_not, Bool.and_eq_true, Bool.or_eq_true, Bool.not_eq_true', bfalse, Bool.not_eq_false', beq_iff_eq, decide_eq_true_eq, isEmpty_eq, ite_and_, ite_or_, ne_eq, toList_mk, List.toList_toArray])
 repeat' first
 | (with_reducible refine LeO.trans ((All.galoisref01_Digits.mono_l k).1 _ _) ?_; rw [All.galoisref01_Digits.j0]; (try simp only [if_true, if_false, decide_eq_true_eq, Bool.false_eq_true, decide_not, ite_not, bne, decide_int_eq, beq_iff_eq, Bool.not_eq_true', bfalse, toList_mk, List.toList_toArray, ite_and_, ite_or_, Bool.and_eq_true, Bool.or_eq_true, isEmpty_eq, wrap_mod, wrap_u8, All.integer_zero.f, bind_some_, Int.toNat_natCast, Int.reduceToNat, Int.zero_sub, BAe]))
 | (with_reducible refine LeO.trans ((All.galoisref01_Digits.mono_l k).2.2.1 _ _ _ _) ?_; rw [All.galoisref01_Digits.j2]; (try simp only [if_true, if_false, decide_eq_true_eq, Bool.false_eq_true, decide_not, ite_not, bne, decide_int_eq, beq_iff_eq, Bool.not_eq_true', bfalse, toList_mk, List.toList_toArray, ite_and_, ite_or_, Bool.and_eq_true, Bool.or_eq_true, isEmpty_eq, wrap_mod, wrap_u8, All.integer_zero.f, bind_some_, Int.toNat_natCast, Int.reduceToNat, Int.zero_sub, BAe]))
 | (with_reducible exact LeO.none _)
 | (with_reducible exact LeO.refl _)
 | (with_reducible refine LeO.posR (by with_reducible assumption) ?_)
 | (with_reducible refine LeO.negR (by with_reducible assumption) ?_)
 | (with_reducible refine LeO.bindR (by with_reducible assumption) ?_)
 | (with_reducible refine LeO.posL (by with_reducible assumption) ?_)
 | (with_reducible refine LeO.negL (by with_reducible assumption) ?_)
 | (with_reducible refine LeO.iteL (fun _ => ?_) (fun _ => ?_))
 | (with_reducible refine LeO.bindK (by with_reducible assumption) ?_)
 | (with_reducible refine LeO.bindL (fun _ _ => ?_))
 | (refine LeO.posR (by first | decide | exact Int.le_refl _ | omega | assumption) ?_)
 | (refine LeO.negR (by first | decide | omega) ?_)
theorem b116 (k : Nat) (x0 : ByteArray) : LeO (FX116 k x0) (B116 (GX116l0 k) x0) := by
 show LeO (All.galoisref01_Digits.f k x0) _
 unfold All.galoisref01_Digits.f
 unfold B116
 (try simp only [GX116l0, GX116l1, FX105, All.integer_zero.f, All.exact_stepAt.f, All.S24.f0, All.S24.f1, All.rd_T24, All.z24])
 (try simp only [List.take_append_drop, List.drop_length, List.append_nil, Int.zero_sub, Int.toNat_natCast, Int.reduceToNat, Int.zero_add, List.take_zero, List.nil_append, List.append_assoc, List.length_set, ite_bind_, List.take_left, BAe, bne, decide_int_eq, decide_not, wrap_mod, if_true, if_false, Bool.false_eq_true, bind_assoc_, slice_def, List.drop_zero, List.take_length, wrap_u8, bind_some_, cnd_eq_if, rdOf, ite_not, Bool.and_eq_true, Bool.or_eq_true, Bool.not_eq_true', bfalse, Bool.not_eq_false', beq_iff_eq, decide_eq_true_eq, isEmpty_eq, ite_and_, ite_or_, ne_eq, toList_mk, List.toList_toArray])
 repeat' first
 | (with_reducible refine LeO.trans ((All.galoisref01_Digits.mono_l k).1 _ _) ?_; rw [All.galoisref01_Digits.j0]; (try simp only [if_true, if_false, decide_eq_true_eq, Bool.false_eq_true, decide_not, ite_not, bne, decide_int_eq, beq_iff_eq, Bool.not_eq_true', bfalse, toList_mk, List.toList_toArray, ite_and_, ite_or_, Bool.and_eq_true, Bool.or_eq_true, isEmpty_eq, wrap_mod, wrap_u8, All.integer_zero.f, bind_some_, Int.toNat_natCast, Int.reduceToNat, Int.zero_sub, BAe]))
 | (with_reducible refine LeO.trans ((All.galoisref01_Digits.mono_l k).2.2.1 _ _ _ _) ?_; rw [All.galoisref01_Digits.j2]; (try simp only [if_true, if_false, decide_eq_true_eq, Bool.false_eq_true, decide_not, ite_not, bne, decide_int_eq, beq_iff_eq, Bool.not_eq_true', bfalse, toList_mk, List.toList_toArray, ite_and_, ite_or_, Bool.and_eq_true, Bool.or_eq_true, isEmpty_eq, wrap_mod, wrap_u8, All.integer_zero.f, bind_some_, Int.toNat_natCast, Int.reduceToNat, Int.zero_sub, BAe]))
 | (with_reducible exact LeO.none _)
 | (with_reducible exact LeO.refl _)
 | (with_reducible refine LeO.posR (by with_reducible assumption) ?_)
 | (with_reducible refine LeO.negR (by with_reducible assumption) ?_)
 | (with_reducible refine LeO.bindR (by with_reducible assumption) ?_)
 | (with_reducible refine LeO.posL (by with_reducible assumption) ?_)
 | (with_reducible refine LeO.negL (by with_reducible assumption) ?_)
 | (with_reducible refine LeO.iteL (fun _ => ?_) (fun _ => ?_))
 | (with_reducible refine LeO.bindK (by with_reducible assumption) ?_)
 | (with_reducible refine LeO.bindL (fun _ _ => ?_))
 | (refine LeO.posR (by first | decide | exact Int.le_refl _ | omega | assumption) ?_)
 | (refine LeO.negR (by first | decide | omega) ?_)
theorem ok116 (k : Nat) : FeOk Go.Proofs.Try.prog (fe116 (FX116 k)) :=
 fe_ok EOK HM (es := fun k => fes116 (FX105 k)) (fun k => List.forall_mem_cons.2 ⟨ok105 k, List.forall_mem_nil _⟩) (N := 69) (an := an116) (c := cd116) (f := 116) (fn := Go.Proofs.Try.f116) (rms := rm116) (ask := ask116) (rsk := rsk116) (enc := enc116) (dec := dec116) (tbl := [p116.getD 0 ⟨0, [], .skip⟩, p116.getD 1 ⟨0, [], .skip⟩]) (fun s => rfl) Go.Proofs.Try.func116 (by kernel_rfl) (by kernel_rfl) (by kernel_rfl) (fun k => les116 (GX116l0 k) (GX116l1 k))
  (List.forall_mem_cons.2 ⟨fun s => rfl, List.forall_mem_cons.2 ⟨fun s => rfl, List.forall_mem_nil _⟩⟩) (fun k s0 => .cons (by kernel_rfl) (by kernel_rfl) (fun s r h => (e116l0 (GX116l0 k) (GX116l1 k) (FX105 k) s0 s).trans (b116l0 k s.1.1 s.1.2.1 s.2.1 r h)) (.cons (by kernel_rfl) (by kernel_rfl) (fun s r h => (e116l1 (GX116l0 k) (GX116l1 k) (FX105 k) s0 s).trans (b116l1 k s.1.1 s.1.2.1 s.1.2.2.1 s.1.2.2.2.1 s.1.2.2.2.2.1 s.1.2.2.2.2.2.1 s.1.2.2.2.2.2.2.1 s.1.2.2.2.2.2.2.2.1 s.2.1 r h)) (.nil)))
  (F := fun k s => FX116 k s.1.1) (fun k s r h => (e116 (GX116l0 k) (GX116l1 k) (FX105 k) s).trans (b116 k s.1.1 r h)) k
theorem b92 (k : Nat) (x0 : ByteArray) : LeO (FX92 k x0) (B92 (FX65 k) (FX116 k) x0) := by
 show LeO (All.galoisref02_Digits.f k x0) _
 unfold All.galoisref02_Digits.f
 unfold B92
 (try simp only [FX65, FX116, All.integer_zero.f, All.exact_stepAt.f, All.S24.f0, All.S24.f1, All.rd_T24, All.z24])
 (try simp only [List.take_append_drop, List.drop_length, List.append_nil, Int.zero_sub, Int.toNat_natCast, Int.reduceToNat, Int.zero_add, List.take_zero, List.nil_append, List.append_assoc, List.length_set, ite_bind_, List.take_left, BAe, bne, decide_int_eq, decide_not, wrap_mod, if_true, if_false, Bool.false_eq_true, bind_assoc_, slice_def, List.drop_zero, List.take_length, wrap_u8, bind_some_, cnd_eq_if, rdOf, ite_not, Bool.and_eq_true, Bool.or_eq_true, Bool.not_eq_true', bfalse, Bool.not_eq_false', beq_iff_eq, decide_eq_true_eq, isEmpty_eq, ite_and_, ite_or_, ne_eq, toList_mk, List.toList_toArray])
 repeat' first
 | (with_reducible refine LeO.trans ((All.galoisref02_Digits.mono_l k) _ _) ?_; rw [All.galoisref02_Digits.j0]; (try simp only [if_true, if_false, decide_eq_true_eq, Bool.false_eq_true, decide_not, ite_not, bne, decide_int_eq, beq_iff_eq, Bool.not_eq_true', bfalse, toList_mk, List.toList_toArray, ite_and_, ite_or_, Bool.and_eq_true, Bool.or_eq_true, isEmpty_eq, wrap_mod, wrap_u8, All.integer_zero.f, bind_some_, Int.toNat_natCast, Int.reduceToNat, Int.zero_sub, BAe]))
 | (with_reducible exact LeO.none _)
 | (with_reducible exact LeO.refl _)
 | (with_reducible refine LeO.posR (by with_reducible assumption) ?_)
 | (with_reducible refine LeO.negR (by with_reducible assumption) ?_)
 | (with_reducible refine LeO.bindR (by with_reducible assumption) ?_)
 | (with_reducible refine LeO.posL (by with_reducible assumption) ?_)
 | (with_reducible refine LeO.negL (by with_reducible assumption) ?_)
 | (with_reducible refine LeO.iteL (fun _ => ?_) (fun _ => ?_))
 | (with_reducible refine LeO.bindK (by with_reducible assumption) ?_)
 | (with_reducible refine LeO.bindL (fun _ _ => ?_))
 | (refine LeO.posR (by first | decide | exact Int.le_refl _ | omega | assumption) ?_)
 | (refine LeO.negR (by first | decide | omega) ?_)
theorem ok92 (k : Nat) : FeOk Go.Proofs.Try.prog (fe92 (FX92 k)) :=
 fe_ok EOK HM (es := fun k => fes92 (FX65 k) (FX116 k)) (fun k => List.forall_mem_cons.2 ⟨ok65 k, List.forall_mem_cons.2 ⟨ok116 k, List.forall_mem_nil _⟩⟩) (N := 37) (an := an92) (c := cd92) (f := 92) (fn := Go.Proofs.Try.f92) (rms := rm92) (ask := ask92) (rsk := rsk92) (enc := enc92) (dec := dec92) (tbl := []) (fun s => rfl) Go.Proofs.Try.func92 (by kernel_rfl) (by kernel_rfl) (by kernel_rfl) (fun k => les92)
  (List.forall_mem_nil _) (fun k s0 => .nil)
  (F := fun k s => FX92 k s.1.1) (fun k s r h => (e92 (FX65 k) (FX116 k) s).trans (b92 k s.1.1 r h)) k
end Go.Proofs.YtdhdfcjpeflinaaV
set_option linter.unusedVariables false
set_option linter.unusedSimpArgs false
set_option maxRecDepth 100000
namespace Go.Proofs.YtdhdfcjpeflinaaV
open Go Go.RowKit Go.Proofs.Ytdhdfcjpeflinaa Go.Proofs.YtdhdfcjpeflinaaE Go.Proofs.YtdhdfcjpeflinaaW.PrintWords Go.Proofs.YtdhdfcjpeflinaaW.PrintLast Go.Proofs.YtdhdfcjpeflinaaW.PrintMore
theorem b50 (k : Nat) (x0 : ByteArray) : LeO (FX50 k x0) (B50 (FX59 k) (FX92 k) x0) := by
 show LeO (All.galoisref02_Parse.f k x0) _
 unfold All.galoisref02_Parse.f; unfold B50; (try simp only [FX59, FX92, All.integer_zero.f, All.exact_stepAt.f, All.S24.f0, All.S24.f1, All.rd_T24, All.z24]); exact BR
theorem ok50 (k : Nat) : FeOk Go.Proofs.Try.prog (fe50 (FX50 k)) :=
 fe_ok EOK HM (es := fun k => fes50 (FX59 k) (FX92 k)) (fun k => List.forall_mem_cons.2 ⟨ok59 k, List.forall_mem_cons.2 ⟨ok92 k, List.forall_mem_nil _⟩⟩) (N := 23) (an := an50) (c := cd50) (f := 50) (fn := Go.Proofs.Try.f50) (rms := rm50) (ask := ask50) (rsk := rsk50) (enc := enc50) (dec := dec50) (tbl := []) (fun s => rfl) Go.Proofs.Try.func50 (by kernel_rfl) (by kernel_rfl) (by kernel_rfl) (fun k => les50)
  (List.forall_mem_nil _) (fun k s0 => .nil)
  (F := fun k s => FX50 k s.1.1) (fun k s r h => (e50 (FX59 k) (FX92 k) s).trans (b50 k s.1.1 r h)) k
@[reducible] noncomputable def GX93l0 (k : Nat) (x3 : (List Int)) (x4 : (List Int)) : Option R93 := All.galoisref01_Format.l0 k x3 x4
@[reducible] noncomputable def GX93l1 (k : Nat) (x5 : Int) (x6 : Int) (x3 : (List Int)) (x4 : (List Int)) : Option R93 := All.galoisref01_Format.l1 k x3 x4 x5 x6
@[reducible] noncomputable def GX93l2 (k : Nat) (x8 : Int) (x3 : (List Int)) (x7 : (List Int)) : Option R93 := All.galoisref01_Format.l2 k x3 x7 x8
theorem b93l0 (k : Nat) (x3 : (List Int)) (x4 : (List Int)) : LeO (All.galoisref01_Format.l0 (k + 1) x3 x4) (B93l0 (GX93l1 k) (GX93l2 k) x3 x4) := by rw [All.galoisref01_Format.l0]; unfold B93l0; (try simp only [GX93l0, GX93l1, GX93l2, FX103, FX117, All.integer_zero.f, All.exact_stepAt.f, All.S24.f0, All.S24.f1, All.rd_T24, All.z24]); exact BR
theorem b93l1 (k : Nat) (x5 : Int) (x6 : Int) (x3 : (List Int)) (x4 : (List Int)) : LeO (All.galoisref01_Format.l1 (k + 1) x3 x4 x5 x6) (B93l1 (GX93l0 k) (GX93l1 k) (FX117 k) x5 x6 x3 x4) := by rw [All.galoisref01_Format.l1]; unfold B93l1; (try simp only [GX93l0, GX93l1, GX93l2, FX103, FX117, All.integer_zero.f, All.exact_stepAt.f, All.S24.f0, All.S24.f1, All.rd_T24, All.z24]); exact BR
theorem b93l2 (k : Nat) (x8 : Int) (x3 : (List Int)) (x7 : (List Int)) : LeO (All.galoisref01_Format.l2 (k + 1) x3 x7 x8) (B93l2 (GX93l2 k) x8 x3 x7) := by rw [All.galoisref01_Format.l2]; unfold B93l2; (try simp only [GX93l0, GX93l1, GX93l2, FX103, FX117, All.integer_zero.f, All.exact_stepAt.f, All.S24.f0, All.S24.f1, All.rd_T24, All.z24]); exact BR
theorem b93 (k : Nat) (x0 : ByteArray) : LeO (FX93 k x0) (B93 (GX93l0 k) (FX103 k) x0) := by
 show LeO (All.galoisref01_Format.f k x0) _
 unfold All.galoisref01_Format.f; unfold B93; (try simp only [GX93l0, GX93l1, GX93l2, FX103, FX117, All.integer_zero.f, All.exact_stepAt.f, All.S24.f0, All.S24.f1, All.rd_T24, All.z24]); exact BR
theorem ok93 (k : Nat) : FeOk Go.Proofs.Try.prog (fe93 (FX93 k)) :=
 fe_ok EOK HM (es := fun k => fes93 (FX103 k) (FX117 k)) (fun k => List.forall_mem_cons.2 ⟨ok103 k, List.forall_mem_cons.2 ⟨ok117 k, List.forall_mem_nil _⟩⟩) (N := 67) (an := an93) (c := cd93) (f := 93) (fn := Go.Proofs.Try.f93) (rms := rm93) (ask := ask93) (rsk := rsk93) (enc := enc93) (dec := dec93) (tbl := [p93.getD 0 ⟨0, [], .skip⟩, p93.getD 1 ⟨0, [], .skip⟩, p93.getD 2 ⟨0, [], .skip⟩]) (fun s => rfl) Go.Proofs.Try.func93 (by kernel_rfl) (by kernel_rfl) (by kernel_rfl) (fun k => les93 (GX93l0 k) (GX93l1 k) (GX93l2 k))
  (List.forall_mem_cons.2 ⟨fun s => rfl, List.forall_mem_cons.2 ⟨fun s => rfl, List.forall_mem_cons.2 ⟨fun s => rfl, List.forall_mem_nil _⟩⟩⟩) (fun k s0 => .cons (by kernel_rfl) (by kernel_rfl) (fun s r h => (e93l0 (GX93l0 k) (GX93l1 k) (GX93l2 k) (FX103 k) (FX117 k) s0 s).trans (b93l0 k s.2.1 s.2.2.1 r h)) (.cons (by kernel_rfl) (by kernel_rfl) (fun s r h => (e93l1 (GX93l0 k) (GX93l1 k) (GX93l2 k) (FX103 k) (FX117 k) s0 s).trans (b93l1 k s.1.1 s.1.2.1 s.2.1 s.2.2.1 r h)) (.cons (by kernel_rfl) (by kernel_rfl) (fun s r h => (e93l2 (GX93l0 k) (GX93l1 k) (GX93l2 k) (FX103 k) (FX117 k) s0 s).trans (b93l2 k s.1.1 s.2.1 s.2.2.1 r h)) (.nil))))
  (F := fun k s => FX93 k s.1.1) (fun k s r h => (e93 (GX93l0 k) (GX93l1 k) (GX93l2 k) (FX103 k) (FX117 k) s).trans (b93 k s.1.1 r h)) k
theorem b51 (k : Nat) (x0 : (Bool × ByteArray)) : LeO (FX51 k x0) (B51 (FX93 k) x0) := by
 show LeO (All.galoisref02_Format.f k x0.1 x0.2) _
 unfold All.galoisref02_Format.f; unfold B51; (try simp only [FX93, All.integer_zero.f, All.exact_stepAt.f, All.S24.f0, All.S24.f1, All.rd_T24, All.z24]); exact BR
theorem ok51 (k : Nat) : FeOk Go.Proofs.Try.prog (fe51 (FX51 k)) :=
 fe_ok EOK HM (es := fun k => fes51 (FX93 k)) (fun k => List.forall_mem_cons.2 ⟨ok93 k, List.forall_mem_nil _⟩) (N := 12) (an := an51) (c := cd51) (f := 51) (fn := Go.Proofs.Try.f51) (rms := rm51) (ask := ask51) (rsk := rsk51) (enc := enc51) (dec := dec51) (tbl := []) (fun s => rfl) Go.Proofs.Try.func51 (by kernel_rfl) (by kernel_rfl) (by kernel_rfl) (fun k => les51)
  (List.forall_mem_nil _) (fun k s0 => .nil)
  (F := fun k s => FX51 k s.1.1) (fun k s r h => (e51 (FX93 k) s).trans (b51 k s.1.1 r h)) k
end Go.Proofs.YtdhdfcjpeflinaaV
namespace Go.Proofs.Ytdhdfcjpeflinaa.All
open Go.Proofs.YtdhdfcjpeflinaaX
open Go.RowKit Go.Proofs.YtdhdfcjpeflinaaW.PrintWords Go.Proofs.YtdhdfcjpeflinaaW.PrintLast Go.Proofs.YtdhdfcjpeflinaaW.PrintMore
attribute [local go_sem] max2_int min2_int max_two min_two max_three min_three max_four min_four
set_option linter.unusedVariables false
set_option linter.unusedSimpArgs false
theorem info5 : (Try.prog.info? 5).map (fun i => (i.zero, i.size, i.bytes)) = some (some (.int .u8 0), 1, 1) := by kernel_rfl
theorem natural_Of.bytes_len (a : Int) (k : Nat) (h : k ≤ 8) : (natural_Of.bytes a k).length = 8 := by simp [natural_Of.bytes]; omega
theorem natural_Of.bytes_set (a : Int) (k : Nat) (h : k < 8) : (natural_Of.bytes a k).set k (natural_Of.byte a k) = natural_Of.bytes a (k + 1) := by
 unfold natural_Of.bytes
 rw [List.set_append_right _ _ (by simp)]
 simp only [List.length_map, List.length_range, Nat.sub_self, List.range_succ, List.map_append, List.map_cons, List.map_nil, List.append_assoc]
 congr 1
 obtain ⟨m, hm⟩ : ∃ m, 8 - k = m + 1 := ⟨7 - k, by omega⟩
 rw [hm, show 8 - (k + 1) = m by omega, List.replicate_succ]
 rfl
theorem natural_Of.made (w : World) : Kd.R (Kd.int .u8) 116 (w.alloc (.cells #[.int .u8 0, .int .u8 0, .int .u8 0, .int .u8 0, .int .u8 0, .int .u8 0, .int .u8 0, .int .u8 0] 116)) w.heap.size (fun _ => True) (.slice (some ⟨w.heap.size, 0, none⟩) 8 8) (List.replicate 8 0) :=
 Kd.R_of_own (own_lit w w.heap.size 116 .u8 (List.replicate 8 0) (Nat.le_refl _) (by simp)) (fun _ _ => trivial)
theorem natural_Of.info5s : (Try.prog.info? 5).map (·.size) = some 1 := by kernel_rfl
theorem natural_Of.reads {w : World} {base g : Nat} {ok : Nat → Prop} {a : Int} (h : Kd.R (Kd.int .u8) 116 w base ok (.slice (some ⟨g, 0, none⟩) 8 8) (natural_Of.bytes a 8)) : Kd.C (Kd.int .u8) w (some ⟨g, 0, none⟩) 8 (natural_Of.bytes a 8) := by
 have := (Kd.R_reads' h).2.2
 rwa [natural_Of.bytes_len a 8 (Nat.le_refl _)] at this
theorem natural_Of.copied {w : World} {base : Nat} {ok : Nat → Prop} {v : Value} {a : Int} (h : Kd.R (Kd.int .u8) 5 w base ok v ((natural_Of.bytes a 8).take (min 8 (List.replicate 8 (0 : Int)).length) ++ (List.replicate 8 (0 : Int)).drop (min 8 (List.replicate 8 (0 : Int)).length))) : Kd.R (Kd.int .u8) 5 w base ok v (natural_Of.bytes a 8) := by
 rw [List.take_of_length_le (by rw [natural_Of.bytes_len a 8 (Nat.le_refl _)]; simp), List.drop_of_length_le (by simp), List.append_nil] at h
 exact h
theorem natural_Of.then_ {w w1 w2 : World} (h : Below w.heap.size w w1) (k : Below w1.heap.size w1 w2) : Below w.heap.size w w2 := below_then h h.size k
theorem natural_Of.drop1 (l : List Int) (h : ¬ l.length = 0) (h0 : rd l 0 = 0) : (l.drop 1).dropWhile (· == 0) = l.dropWhile (· == 0) := by
 cases l with
 | nil => exact absurd rfl h
 | cons x l =>
  have : x = 0 := h0
  subst this
  simp
theorem natural_Of.keep (l : List Int) (h0 : ¬ rd l 0 = 0) : l.dropWhile (· == 0) = l := by
 cases l with
 | nil => rfl
 | cons x l =>
  have : ¬ x = 0 := h0
  simp [this]
theorem natural_Of.add0 (a : Addr) : a.add 0 = a := by
 unfold Addr.add
 split <;> simp_all
set_option maxHeartbeats 2000000 in
set_option maxRecDepth 100000 in
theorem natural_Of.calls (a0 : Int) (r : ByteArray) (w : World) (h : natural_Of.f a0 = some r) :
  Calls Try.prog 114 #[.int .u64 a0] w fun e w' => e = .returned (.string r) ∧ Below w.heap.size w w' := by
 unfold natural_Of.f at h
 by_cases c : 0 ≤ a0 ∧ a0 ≤ 18446744073709551615
 case neg =>
  rw [if_neg c] at h
  exact absurd h (by simp)
 rw [if_pos c] at h
 obtain rfl := Option.some.inj h
 clear h
 obtain ⟨h0, h1⟩ := c
 go_enter Try.func114, Try.ntmps114
 go_wp2
 have HR0 := Aside0.mk (natural_Of.made w)
 have HB0 := Aside0.mk (below_alloc (Below.refl w.heap.size w) (.cells #[.int .u8 0, .int .u8 0, .int .u8 0, .int .u8 0, .int .u8 0, .int .u8 0, .int .u8 0, .int .u8 0] 116))
 go_loopw [6] (fun i wr => ∃ k : Nat, k ≤ 8 ∧ i = .int .i64 k ∧ Aside0 (Kd.R (Kd.int .u8) 116 wr w.heap.size (fun _ => True) (.slice (some ⟨w.heap.size, 0, none⟩) 8 8) (natural_Of.bytes a0 k)) ∧ Aside0 (Below w.heap.size w wr)) (fun i _ => 8 - (intOf i).toNat)
 case atStart => exact ⟨0, by omega, rfl, HR0, HB0⟩
 case round =>
  obtain ⟨k, hk, rfl, HR, HB⟩ := hrel
  clear HR0 HB0
  by_cases hlt : k < 8
  ·have e1 : IntKind.i64.wrap (8 * (k : Int)) = 8 * (k : Int) := IntWalk.i64_in _ (by omega)
   have e2 : IntKind.i64.wrap (56 - 8 * (k : Int)) = 56 - 8 * (k : Int) := IntWalk.i64_in _ (by omega)
   have e3 : (0 : Int) ≤ 56 - 8 * (k : Int) := by omega
   obtain ⟨hc, hf⟩ := Kd.R_celln (0 : Int) HR.out (k : Int) (by omega) (by omega); (try simp only [Int.toNat_natCast] at hc hf)
   (try simp only [Int.toNat_natCast] at hc hf)
   go_wp2
   go_roundw
   case rel =>
    have hp := (Kd.R_putg HR.out (k : Int) (natural_Of.byte a0 k)).1
    rw [Int.toNat_natCast, natural_Of.bytes_set a0 k hlt] at hp
    exact ⟨k + 1, by omega, by go_num, ⟨hp⟩, ⟨below_set HB.out (Nat.le_refl _)⟩⟩
   case measure => simp [intOf]; omega
  ·obtain rfl : k = 8 := by omega
   clear hlt hk
   go_wp2_with (first
    | ((with_reducible refine gate_dst (N := 18) rfl ?_); refine Kd.R_make (Kd.int .u8) _ 5 rfl (N := 18) rfl 106 _ _ rfl 8 rfl rfl Try.underlying106 (.int .u8 0) 1 info5 rfl (by decide) (by omega) 0 (ok := fun _ => True) (okp := fun _ => True) rfl (fun _ hk => hk) trivial (by omega) (by decide) (Below.refl _ _) (Nat.le_refl _) ?_; intro v1 w1 ho hb hg hn; have HO := Aside0.mk ho; have HG := Aside0.mk hb; have HC := Aside0.mk (natural_Of.reads (Kd.R_below HR.out hb)); clear ho hb hg hn)
    | ((with_reducible refine gate_builtin (b := .copy) rfl ?_); refine Kd.R_copy (0 : Int) wr.heap.size rfl _ _ 106 106 5 rfl Try.underlying106 natural_Of.info5s v1 (List.replicate 8 0) (natural_Of.bytes a0 8) (some ⟨w.heap.size, 0, none⟩) 8 8 (fun _ => True) rfl rfl HO.out HC.out HG.out HG.out.size ?_; intro w2 ho hb hg; have HO2 := Aside0.mk (natural_Of.copied ho); have HB2 := Aside0.mk (natural_Of.then_ HB.out hb); clear ho hb hg HR HB HO HG HC))
   obtain ⟨A, cp, hv, hcp, hC⟩ := Kd.Q_reads (Kd.Q_of_R HO2.out)
   have HQ := Aside0.mk (Kd.Q_of_R HO2.out)
   clear HO2
   rw [natural_Of.bytes_len a0 8 (Nat.le_refl _)] at hv
   subst hv
   have hl8 := natural_Of.bytes_len a0 8 (Nat.le_refl _)
   have HQ' : Aside0 (Kd.Q (Kd.int .u8) 5 w2 wr.heap.size (fun _ => True) (.slice A (natural_Of.bytes a0 8).length cp) (natural_Of.bytes a0 8)) := ⟨by rw [hl8]; exact HQ.out⟩
   have HL := Aside0.mk hl8
   clear hl8 hC hcp HQ
   (try simp only [Act.put, List.setIfInBounds_toArray, List.set_cons_zero, List.set_cons_succ])
   go_loop [5] (fun v => ∃ (l : List Int) (A : Option Addr) (c : Nat), v = .slice A l.length c ∧ Aside0 (Kd.Q (Kd.int .u8) 5 w2 wr.heap.size (fun _ => True) (.slice A l.length c) l) ∧ Aside0 (l.dropWhile (· == 0) = (natural_Of.bytes a0 8).dropWhile (· == 0))) (fun v => natural_Of.len v)
   case atStart => exact ⟨natural_Of.bytes a0 8, A, cp, by rw [HL.out], HQ', ⟨rfl⟩⟩
   case round =>
    obtain ⟨l, A1, c1, rfl, HQ1, HD⟩ := hrel
    clear HQ' HL
    obtain ⟨hn, hcp, hC⟩ := Kd.Q_reads' HQ1.out
    have HC := Aside0.mk hC
    clear hC hn
    by_cases hz : l.length = 0
    ·have hnil : l = [] := List.eq_nil_of_length_eq_zero hz
     have hstr := Kd.C_string (P := Try.prog) Try.underlying106 Try.underlying5 Try.underlying22 (c := c1) HC.out
     have c1b : decide (0 < l.length) = false := by rw [hz]; rfl
     have HN := Aside0.mk hnil
     clear hz hnil hcp
     go_wp2
     go_ret
     refine ⟨?_, HB2.out⟩
     rw [← HD.out, HN.out]
     rfl
    ·obtain ⟨ad, rfl, hx⟩ := Kd.at_int HC.out 0 (by omega) (by omega)
     have hx' : w2.cell? ad = some (.int .u8 (rd l 0)) := by rw [← natural_Of.add0 ad]; exact hx
     clear hx
     have c1b : decide (0 < l.length) = true := by simp; omega
     have c2b : decide ((0 : Int) < (l.length : Int)) = true := by simp; omega
     have c4b : (0 < l.length) = True := eq_true (by omega)
     have c5b : ((0 : Int) < (l.length : Int)) = True := eq_true (by omega)
     have HZ := Aside0.mk hz
     by_cases hx0 : rd l 0 = 0
     ·have c3b : (rd l 0 == 0) = true := beq_iff_eq.mpr hx0
      have HX := Aside0.mk hx0
      obtain ⟨i0, hi0, _, hsz, _⟩ := info_parts info5
      have hcut := cut_from (P := Try.prog) 106 5 .i64 Try.underlying106 hi0 1 hsz (some ad) l.length c1 1 (by omega) (by omega)
      have hq := Kd.Q_drop (k := 1) HQ1.out (by omega)
      obtain ⟨A2, hA2⟩ : ∃ A2, A2 = (if c1 = 1 then some ad else (some ad : Option Addr).map (·.add (1 * 1))) := ⟨_, rfl⟩
      have hl2 : (l.drop 1).length = l.length - 1 := by simp
      have hq2 : Kd.Q (Kd.int .u8) 5 w2 wr.heap.size (fun _ => True) (.slice A2 (l.drop 1).length (c1 - 1)) (l.drop 1) := by rw [hl2, hA2]; exact hq
      obtain ⟨l2, hl2'⟩ : ∃ l2, l2 = l.drop 1 := ⟨_, rfl⟩
      obtain ⟨c2, hc2⟩ : ∃ c2, c2 = c1 - 1 := ⟨_, rfl⟩
      have hcut2 : ∀ W : World, (Instr.slice 106 (.slice (some ad) l.length c1) (some (.int .i64 1)) none none).run Try.prog W = .ok (.slice A2 l2.length c2) W := by
       intro W
       rw [hcut W, hl2', hl2, hc2, hA2]
       rfl
      rw [← hl2', ← hc2] at hq2
      have HQ2 := Aside0.mk hq2
      have HL2 := Aside0.mk hl2'
      clear hcut hq hA2 hl2 hq2 hl2' hc2 hx0 hi0 hsz hcp hz
      go_wp2
      go_round
      case rel =>
       refine ⟨l2, A2, c2, by first | rfl | exact ⟨rfl, rfl, rfl⟩, HQ2, ⟨?_⟩⟩
       rw [← HD.out, HL2.out]
       exact natural_Of.drop1 l HZ.out HX.out
      case measure =>
       show natural_Of.len (.slice A2 l2.length c2) < natural_Of.len (.slice (some ad) l.length c1)
       rw [HL2.out]
       have := HZ.out
       simp [natural_Of.len]
       omega
     ·have c3b : (rd l 0 == 0) = false := beq_eq_false_iff_ne.mpr hx0
      have HX := Aside0.mk hx0
      have hstr := Kd.C_string (P := Try.prog) Try.underlying106 Try.underlying5 Try.underlying22 (c := c1) HC.out
      clear hz hcp hx0
      go_wp2
      go_ret
      refine ⟨?_, HB2.out⟩
      rw [← HD.out, natural_Of.keep l HX.out]
      rfl
end Go.Proofs.Ytdhdfcjpeflinaa.All
set_option linter.unusedVariables false
namespace Go.Proofs.YtdhdfcjpeflinaaE
open Go.RowKit
theorem calls_of_ct {P : Program} {f : Nat} {fn : Func} {c : Code} (hf : P.funcs[f]? = some fn) (hname : (fn.name == "runtime.NumGoroutine") = false) (hb : fn.body = some c) {asx : List V} {r : V} {us : Bl} (h : Ct P f asx [] r us) {vs : List Value}
  (hv : ∀ w bl φ, RepVs w bl φ asx vs) (hr : ∀ w bl φ v, RepV w bl φ r v → v = .bool true) (w : World) : Calls P f vs.toArray w fun e w' => e = .returned (.bool true) ∧ Below w.heap.size w w' := by
 have hm : Mem w (lentBo [] (fun _ => ⟨0, 0, some 0⟩)) (fun _ => .fresh) (fun _ => ⟨0, 0, some 0⟩) w :=
  ⟨fun n => trivial, (fun n m h => by obtain ⟨_, _, _, e⟩ := h; cases e), (fun n t l tl _ h => by cases h), Frame'.refl _ _⟩
 rcases h.2 w (fun _ => .fresh) (fun _ => ⟨0, 0, some 0⟩) vs (fun n _ => rfl) hm (hv _ _ _) with ⟨_, h1⟩ | ⟨v, w', h1, _⟩
 ·refine h1.mono fun e w' => ?_
  rintro ⟨v, rfl, φ', st, rv⟩
  have fr := st.mem.fr
  refine ⟨by rw [hr _ _ _ _ rv], fr.os, fr.tape, fr.output, fr.size, fun b hb => fr.block b hb fun o h => ?_⟩
  obtain ⟨n, t, l, tl, _, e, _⟩ := h
  cases e
 ·exfalso
  have e : (callFunc f vs.toArray).run P w = .ok (.enter f vs.toArray) w := by simp only [callFunc, Sem.run_bind, run_program, Result.andThen_ok, hf, hname, hb, Option.isNone_some, Bool.false_eq_true, if_false, Sem.run_pure]
  rw [e] at h1; cases h1
theorem below_frame {w w' : World} (h : Below w.heap.size w w') : Frame' w w' (fun _ _ => False) := by
 have hb : ∀ b, b < w.heap.size → w'.heap[b]? = w.heap[b]? := h.block
 have hc : ∀ b o, b < w.heap.size → w'.cell? ⟨b, o, none⟩ = w.cell? ⟨b, o, none⟩ := fun b o hl => by unfold World.cell?; rw [hb b hl]
 exact ⟨h.os, h.tape, h.output, h.size, fun b hl _ => hb b hl, fun b o hl _ => hc b o hl, fun b o hs => by
  have hl : b < w.heap.size := by
   obtain ⟨v, hv⟩ := Option.isSome_iff_exists.1 hs
   exact cell_lt hv
  rw [hc b o hl]; exact hs, fun b o hl => by unfold World.frozen?; rw [hb b hl]⟩
theorem S_below {w0 w w' : World} {Bo : Nat → Nat → Prop} {bl : Nat → Blk} {φ : Nat → Addr} (m : Mem w0 Bo bl φ w) (h : Below w.heap.size w w') : Step w0 Bo bl φ w bl φ w' :=
 S_gen m (fun _ => False) (fun _ _ => ⟨rfl, rfl⟩) (fun _ h => h.elim) ((below_frame h).ext (fun _ _ _ h => h.elim) fun _ _ h => h) (fun n _ hl hs o v hv => ((below_frame h).cell _ _ (cell_lt hv) id).trans hv) (fun _ h => h.elim) (fun _ _ h => h.elim) (fun _ _ _ _ h => h.elim) (m.fr.trans (below_frame h) fun _ _ _ h => h.elim)
section
variable {w : World} {bl : Nat → Blk} {φ : Nat → Addr}
theorem rep_str {x : ByteArray} : RepV w bl φ (.a (.v .st x)) (.string x) := ⟨[.string x], rfl, rfl⟩
theorem rep_bs {x : Bool} {y : ByteArray} : RepV w bl φ (.a (.v (.ag (.pr .bo .st)) (x, y))) (.agg #[.bool x, .string y]) := ⟨[.bool x, .string y], ⟨[.bool x], [.string y], rfl, rfl, rfl⟩, rfl⟩
theorem rep_true {v : Value} (h : RepV w bl φ (.a (.v .bo true)) v) : v = .bool true := by
 obtain ⟨cs, h1, h2⟩ := h
 have h1 : cs = [.bool true] := h1
 subst h1
 have h2 : [Value.bool true] = [v] := h2
 cases h2; rfl
end
end Go.Proofs.YtdhdfcjpeflinaaE
namespace Go.Proofs.YtdhdfcjpeflinaaV
open Go Go.RowKit Go.Proofs.Ytdhdfcjpeflinaa Go.Proofs.YtdhdfcjpeflinaaE Go.Proofs.YtdhdfcjpeflinaaW.PrintWords Go.Proofs.YtdhdfcjpeflinaaW.PrintLast Go.Proofs.YtdhdfcjpeflinaaW.PrintMore
theorem ok114 (k : Nat) : FeOk Go.Proofs.Try.prog (fe114 (FX114 k)) := by
 rintro ⟨⟨x, ⟨⟩⟩, ⟨⟩⟩ o h v hv
 replace h : All.natural_Of.f x = some o := h
 cases hv
 refine ⟨(fun q hq => nomatch hq), fun w0 bl0 φ0 vs _ hm hr => ?_⟩
 cases hr with
 | cons h1 hr =>
  cases hr with
  | nil =>
   rw [rep_it.1 h1]
   refine sem_enter (c := (Go.Proofs.Try.f114.body).getD .skip) Go.Proofs.Try.func114 (by kernel_rfl) (by kernel_rfl) ((All.natural_Of.calls x o w0 h).mono ?_)
   rintro e w' ⟨rfl, hb⟩
   exact ⟨_, rfl, φ0, S_below hm hb, rep_str⟩
end Go.Proofs.YtdhdfcjpeflinaaV
set_option linter.unusedVariables false
set_option linter.unusedSimpArgs false
set_option maxRecDepth 100000
namespace Go.Proofs.YtdhdfcjpeflinaaV
open Go Go.RowKit Go.Proofs.Ytdhdfcjpeflinaa Go.Proofs.YtdhdfcjpeflinaaE Go.Proofs.YtdhdfcjpeflinaaW.PrintWords Go.Proofs.YtdhdfcjpeflinaaW.PrintLast Go.Proofs.YtdhdfcjpeflinaaW.PrintMore
@[reducible] noncomputable def GX90l0 (k : Nat) (x0 : ByteArray) (x5 : (List Int)) : Option R90 := All.natural_Format.l0 k x0 x5
@[reducible] noncomputable def GX90l1 (k : Nat) (x43 : Int) (x44 : Int) (x5 : (List Int)) (x10 : (List Int)) : Option R90 := All.natural_Format.l1 k x5 x10 x43 x44
@[reducible] noncomputable def GX90l2 (k : Nat) (x11 : Int) (x12 : Int) (x13 : Int) (x43 : Int) (x44 : Int) (x5 : (List Int)) (x10 : (List Int)) : Option R90 := All.natural_Format.l2 k x5 x10 x11 x12 x13 x43 x44
@[reducible] noncomputable def GX90l3 (k : Nat) (x14 : Int) (x15 : Int) (x10 : (List Int)) : Option R90 := All.natural_Format.l3 k x10 x14 x15
theorem b90l0 (k : Nat) (x0 : ByteArray) (x5 : (List Int)) : LeO (All.natural_Format.l0 (k + 1) x0 x5) (B90l0 (GX90l0 k) (GX90l1 k) (FX94 k) (FX111 k) (FX114 k) x0 x5) := by rw [All.natural_Format.l0]; unfold B90l0; (try simp only [GX90l0, GX90l1, GX90l2, GX90l3, FX94, FX111, FX113, FX114, All.integer_zero.f, All.exact_stepAt.f, All.S24.f0, All.S24.f1, All.rd_T24, All.z24]); exact BR
theorem b90l1 (k : Nat) (x43 : Int) (x44 : Int) (x5 : (List Int)) (x10 : (List Int)) : LeO (All.natural_Format.l1 (k + 1) x5 x10 x43 x44) (B90l1 (GX90l2 k) (GX90l3 k) x43 x44 x5 x10) := by rw [All.natural_Format.l1]; unfold B90l1; (try simp only [GX90l0, GX90l1, GX90l2, GX90l3, FX94, FX111, FX113, FX114, All.integer_zero.f, All.exact_stepAt.f, All.S24.f0, All.S24.f1, All.rd_T24, All.z24]); exact BR
theorem b90l2 (k : Nat) (x11 : Int) (x12 : Int) (x13 : Int) (x43 : Int) (x44 : Int) (x5 : (List Int)) (x10 : (List Int)) : LeO (All.natural_Format.l2 (k + 1) x5 x10 x11 x12 x13 x43 x44) (B90l2 (GX90l1 k) (GX90l2 k) x11 x12 x13 x43 x44 x5 x10) := by rw [All.natural_Format.l2]; unfold B90l2; (try simp only [GX90l0, GX90l1, GX90l2, GX90l3, FX94, FX111, FX113, FX114, All.integer_zero.f, All.exact_stepAt.f, All.S24.f0, All.S24.f1, All.rd_T24, All.z24]); exact BR
theorem b90l3 (k : Nat) (x14 : Int) (x15 : Int) (x10 : (List Int)) : LeO (All.natural_Format.l3 (k + 1) x10 x14 x15) (B90l3 (GX90l3 k) x14 x15 x10) := by rw [All.natural_Format.l3]; unfold B90l3; (try simp only [GX90l0, GX90l1, GX90l2, GX90l3, FX94, FX111, FX113, FX114, All.integer_zero.f, All.exact_stepAt.f, All.S24.f0, All.S24.f1, All.rd_T24, All.z24]); exact BR
theorem b90 (k : Nat) (x0 : ByteArray) : LeO (FX90 k x0) (B90 (GX90l0 k) (FX113 k) x0) := by
 show LeO (All.natural_Format.f k x0) _
 unfold All.natural_Format.f; unfold B90; (try simp only [GX90l0, GX90l1, GX90l2, GX90l3, FX94, FX111, FX113, FX114, All.integer_zero.f, All.exact_stepAt.f, All.S24.f0, All.S24.f1, All.rd_T24, All.z24]); exact BR
theorem ok90 (k : Nat) : FeOk Go.Proofs.Try.prog (fe90 (FX90 k)) :=
 fe_ok EOK HM (es := fun k => fes90 (FX94 k) (FX111 k) (FX113 k) (FX114 k)) (fun k => List.forall_mem_cons.2 ⟨ok94 k, List.forall_mem_cons.2 ⟨ok111 k, List.forall_mem_cons.2 ⟨ok113 k, List.forall_mem_cons.2 ⟨ok114 k, List.forall_mem_nil _⟩⟩⟩⟩) (N := 102) (an := an90) (c := cd90) (f := 90) (fn := Go.Proofs.Try.f90) (rms := rm90) (ask := ask90) (rsk := rsk90) (enc := enc90) (dec := dec90) (tbl := [p90.getD 0 ⟨0, [], .skip⟩, p90.getD 1 ⟨0, [], .skip⟩, p90.getD 2 ⟨0, [], .skip⟩, p90.getD 3 ⟨0, [], .skip⟩]) (fun s => rfl) Go.Proofs.Try.func90 (by kernel_rfl) (by kernel_rfl) (by kernel_rfl) (fun k => les90 (GX90l0 k) (GX90l1 k) (GX90l2 k) (GX90l3 k))
  (List.forall_mem_cons.2 ⟨fun s => rfl, List.forall_mem_cons.2 ⟨fun s => rfl, List.forall_mem_cons.2 ⟨fun s => rfl, List.forall_mem_cons.2 ⟨fun s => rfl, List.forall_mem_nil _⟩⟩⟩⟩) (fun k s0 => .cons (by kernel_rfl) (by kernel_rfl) (fun s r h => (e90l0 (GX90l0 k) (GX90l1 k) (GX90l2 k) (GX90l3 k) (FX94 k) (FX111 k) (FX113 k) (FX114 k) s0 s).trans (b90l0 k s.1.1 s.2.1 r h)) (.cons (by kernel_rfl) (by kernel_rfl) (fun s r h => (e90l1 (GX90l0 k) (GX90l1 k) (GX90l2 k) (GX90l3 k) (FX94 k) (FX111 k) (FX113 k) (FX114 k) s0 s).trans (b90l1 k s.1.1 s.1.2.1 s.2.1 s.2.2.1 r h)) (.cons (by kernel_rfl) (by kernel_rfl) (fun s r h => (e90l2 (GX90l0 k) (GX90l1 k) (GX90l2 k) (GX90l3 k) (FX94 k) (FX111 k) (FX113 k) (FX114 k) s0 s).trans (b90l2 k s.1.1 s.1.2.1 s.1.2.2.1 s.1.2.2.2.1 s.1.2.2.2.2.1 s.2.1 s.2.2.1 r h)) (.cons (by kernel_rfl) (by kernel_rfl) (fun s r h => (e90l3 (GX90l0 k) (GX90l1 k) (GX90l2 k) (GX90l3 k) (FX94 k) (FX111 k) (FX113 k) (FX114 k) s0 s).trans (b90l3 k s.1.1 s.1.2.1 s.2.1 r h)) (.nil)))))
  (F := fun k s => FX90 k s.1.1) (fun k s r h => (e90 (GX90l0 k) (GX90l1 k) (GX90l2 k) (GX90l3 k) (FX94 k) (FX111 k) (FX113 k) (FX114 k) s).trans (b90 k s.1.1 r h)) k
theorem b48 (k : Nat) (x0 : (Bool × ByteArray)) : LeO (FX48 k x0) (B48 (FX33 k) (FX90 k) x0) := by
 show LeO (All.integer_Format.f k x0.1 x0.2) _
 unfold All.integer_Format.f; unfold B48; (try simp only [FX33, FX90, All.integer_zero.f, All.exact_stepAt.f, All.S24.f0, All.S24.f1, All.rd_T24, All.z24]); exact BR
theorem ok48 (k : Nat) : FeOk Go.Proofs.Try.prog (fe48 (FX48 k)) :=
 fe_ok EOK HM (es := fun k => fes48 (FX33 k) (FX90 k)) (fun k => List.forall_mem_cons.2 ⟨ok33 k, List.forall_mem_cons.2 ⟨ok90 k, List.forall_mem_nil _⟩⟩) (N := 28) (an := an48) (c := cd48) (f := 48) (fn := Go.Proofs.Try.f48) (rms := rm48) (ask := ask48) (rsk := rsk48) (enc := enc48) (dec := dec48) (tbl := []) (fun s => rfl) Go.Proofs.Try.func48 (by kernel_rfl) (by kernel_rfl) (by kernel_rfl) (fun k => les48)
  (List.forall_mem_nil _) (fun k s0 => .nil)
  (F := fun k s => FX48 k s.1.1) (fun k s r h => (e48 (FX33 k) (FX90 k) s).trans (b48 k s.1.1 r h)) k
@[reducible] noncomputable def GX91l0 (k : Nat) (x0 : ByteArray) (x26 : Int) (x27 : Int) : Option R91 := All.natural_Parse.l0 k x0 x26 x27
@[reducible] noncomputable def GX91l1 (k : Nat) (x0 : ByteArray) (x5 : ByteArray) (x6 : Int) : Option R91 := All.natural_Parse.l1 k x0 x5 x6
@[reducible] noncomputable def GX91l2 (k : Nat) (x0 : ByteArray) (x5 : ByteArray) (x6 : Int) (x7 : Int) (x8 : Int) (x9 : Int) : Option R91 := All.natural_Parse.l2 k x0 x5 x6 x7 x8 x9
theorem b91l0 (k : Nat) (x0 : ByteArray) (x26 : Int) (x27 : Int) : LeO (All.natural_Parse.l0 (k + 1) x0 x26 x27) (B91l0 (GX91l0 k) (GX91l1 k) x0 x26 x27) := by
 rw [All.natural_Parse.l0]
 unfold B91l0
 (try simp only [GX91l0, GX91l1, GX91l2, FX95, FX108, FX114, FX115, All.integer_zero.f, All.exact_stepAt.f, All.S24.f0, All.S24.f1, All.rd_T24, All.z24])
 (try simp only [List.take_append_drop, List.drop_length, List.append_nil, Int.zero_sub, Int.toNat_natCast, Int.reduceToNat, Int.zero_add, List.take_zero, List.nil_append, List.append_assoc, List.length_set, ite_bind_, List.take_left, BAe, bne, decide_int_eq, decide_not, wrap_mod, if_true, if_false, Bool.false_eq_true, bind_assoc_, slice_def, List.drop_zero, List.take_length, wrap_u8, bind_some_, cnd_eq_if, rdOf, ite_not, Bool.and_eq_true, Bool.or_eq_true, Bool.not_eq_true', bfalse, Bool.not_eq_false', beq_iff_eq, decide_eq_true_eq, isEmpty_eq, ite_and_, ite_or_, ne_eq, toList_mk, List.toList_toArray])
 repeat' first
 | (with_reducible refine LeO.trans ((All.natural_Parse.mono_l k).1 _ _) ?_; rw [All.natural_Parse.j0]; (try simp only [if_true, if_false, decide_eq_true_eq, Bool.false_eq_true, decide_not, ite_not, bne, decide_int_eq, beq_iff_eq, Bool.not_eq_true', bfalse, toList_mk, List.toList_toArray, ite_and_, ite_or_, Bool.and_eq_true, Bool.or_eq_true, isEmpty_eq, wrap_mod, wrap_u8, All.integer_zero.f, bind_some_, Int.toNat_natCast, Int.reduceToNat, Int.zero_sub, BAe]))
 | (with_reducible exact LeO.none _)
 | (with_reducible exact LeO.refl _)
 | (with_reducible refine LeO.posR (by with_reducible assumption) ?_)
 | (with_reducible refine LeO.negR (by with_reducible assumption) ?_)
 | (with_reducible refine LeO.bindR (by with_reducible assumption) ?_)
 | (with_reducible refine LeO.posL (by with_reducible assumption) ?_)
 | (with_reducible refine LeO.negL (by with_reducible assumption) ?_)
 | (with_reducible refine LeO.iteL (fun _ => ?_) (fun _ => ?_))
 | (with_reducible refine LeO.bindK (by with_reducible assumption) ?_)
 | (with_reducible refine LeO.bindL (fun _ _ => ?_))
 | (refine LeO.posR (by first | decide | exact Int.le_refl _ | omega | assumption) ?_)
 | (refine LeO.negR (by first | decide | omega) ?_)
theorem b91l1 (k : Nat) (x0 : ByteArray) (x5 : ByteArray) (x6 : Int) : LeO (All.natural_Parse.l1 (k + 1) x0 x5 x6) (B91l1 (GX91l2 k) (FX115 k) x0 x5 x6) := by
 rw [All.natural_Parse.l1]
 unfold B91l1
 (try simp only [GX91l0, GX91l1, GX91l2, FX95, FX108, FX114, FX115, All.integer_zero.f, All.exact_stepAt.f, All.S24.f0, All.S24.f1, All.rd_T24, All.z24])
 (try simp only [List.take_append_drop, List.drop_length, List.append_nil, Int.zero_sub, Int.toNat_natCast, Int.reduceToNat, Int.zero_add, List.take_zero, List.nil_append, List.append_assoc, List.length_set, ite_bind_, List.take_left, BAe, bne, decide_int_eq, decide_not, wrap_mod, if_true, if_false, Bool.false_eq_true, bind_assoc_, slice_def, List.drop_zero, List.take_length, wrap_u8, bind_some_, cnd_eq_if, rdOf, ite_not, Bool.and_eq_true, Bool.or_eq_true, Bool.not_eq_true', bfalse, Bool.not_eq_false', beq_iff_eq, decide_eq_true_eq, isEmpty_eq, ite_and_, ite_or_, ne_eq, toList_mk, List.toList_toArray])
 repeat' first
 | (with_reducible refine LeO.trans ((All.natural_Parse.mono_l k).1 _ _) ?_; rw [All.natural_Parse.j0]; (try simp only [if_true, if_false, decide_eq_true_eq, Bool.false_eq_true, decide_not, ite_not, bne, decide_int_eq, beq_iff_eq, Bool.not_eq_true', bfalse, toList_mk, List.toList_toArray, ite_and_, ite_or_, Bool.and_eq_true, Bool.or_eq_true, isEmpty_eq, wrap_mod, wrap_u8, All.integer_zero.f, bind_some_, Int.toNat_natCast, Int.reduceToNat, Int.zero_sub, BAe]))
 | (with_reducible exact LeO.none _)
 | (with_reducible exact LeO.refl _)
 | (with_reducible refine LeO.posR (by with_reducible assumption) ?_)
 | (with_reducible refine LeO.negR (by with_reducible assumption) ?_)
 | (with_reducible refine LeO.bindR (by with_reducible assumption) ?_)
 | (with_reducible refine LeO.posL (by with_reducible assumption) ?_)
 | (with_reducible refine LeO.negL (by with_reducible assumption) ?_)
 | (with_reducible refine LeO.iteL (fun _ => ?_) (fun _ => ?_))
 | (with_reducible refine LeO.bindK (by with_reducible assumption) ?_)
 | (with_reducible refine LeO.bindL (fun _ _ => ?_))
 | (refine LeO.posR (by first | decide | exact Int.le_refl _ | omega | assumption) ?_)
 | (refine LeO.negR (by first | decide | omega) ?_)
theorem b91l2 (k : Nat) (x0 : ByteArray) (x5 : ByteArray) (x6 : Int) (x7 : Int) (x8 : Int) (x9 : Int) : LeO (All.natural_Parse.l2 (k + 1) x0 x5 x6 x7 x8 x9) (B91l2 (GX91l1 k) (GX91l2 k) (FX95 k) (FX108 k) (FX114 k) x0 x5 x6 x7 x8 x9) := by
 rw [All.natural_Parse.l2]
 unfold B91l2
 (try simp only [GX91l0, GX91l1, GX91l2, FX95, FX108, FX114, FX115, All.integer_zero.f, All.exact_stepAt.f, All.S24.f0, All.S24.f1, All.rd_T24, All.z24])
 (try simp only [List.take_append_drop, List.drop_length, List.append_nil, Int.zero_sub, Int.toNat_natCast, Int.reduceToNat, Int.zero_add, List.take_zero, List.nil_append, List.append_assoc, List.length_set, ite_bind_, List.take_left, BAe, bne, decide_int_eq, decide_not, wrap_mod, if_true, if_false, Bool.false_eq_true, bind_assoc_, slice_def, List.drop_zero, List.take_length, wrap_u8, bind_some_, cnd_eq_if, rdOf, ite_not, Bool.and_eq_true, Bool.or_eq_true, Bool.not_eq_true', bfalse, Bool.not_eq_false', beq_iff_eq, decide_eq_true_eq, isEmpty_eq, ite_and_, ite_or_, ne_eq, toList_mk, List.toList_toArray])
 repeat' first
 | (with_reducible refine LeO.trans ((All.natural_Parse.mono_l k).1 _ _) ?_; rw [All.natural_Parse.j0]; (try simp only [if_true, if_false, decide_eq_true_eq, Bool.false_eq_true, decide_not, ite_not, bne, decide_int_eq, beq_iff_eq, Bool.not_eq_true', bfalse, toList_mk, List.toList_toArray, ite_and_, ite_or_, Bool.and_eq_true, Bool.or_eq_true, isEmpty_eq, wrap_mod, wrap_u8, All.integer_zero.f, bind_some_, Int.toNat_natCast, Int.reduceToNat, Int.zero_sub, BAe]))
 | (with_reducible exact LeO.none _)
 | (with_reducible exact LeO.refl _)
 | (with_reducible refine LeO.posR (by with_reducible assumption) ?_)
 | (with_reducible refine LeO.negR (by with_reducible assumption) ?_)
 | (with_reducible refine LeO.bindR (by with_reducible assumption) ?_)
 | (with_reducible refine LeO.posL (by with_reducible assumption) ?_)
 | (with_reducible refine LeO.negL (by with_reducible assumption) ?_)
 | (with_reducible refine LeO.iteL (fun _ => ?_) (fun _ => ?_))
 | (with_reducible refine LeO.bindK (by with_reducible assumption) ?_)
 | (with_reducible refine LeO.bindL (fun _ _ => ?_))
 | (refine LeO.posR (by first | decide | exact Int.le_refl _ | omega | assumption) ?_)
 | (refine LeO.negR (by first | decide | omega) ?_)
theorem b91 (k : Nat) (x0 : ByteArray) : LeO (FX91 k x0) (B91 (GX91l0 k) x0) := by
 show LeO (All.natural_Parse.f k x0) _
 unfold All.natural_Parse.f
 unfold B91
 (try simp only [GX91l0, GX91l1, GX91l2, FX95, FX108, FX114, FX115, All.integer_zero.f, All.exact_stepAt.f, All.S24.f0, All.S24.f1, All.rd_T24, All.z24])
 (try simp only [List.take_append_drop, List.drop_length, List.append_nil, Int.zero_sub, Int.toNat_natCast, Int.reduceToNat, Int.zero_add, List.take_zero, List.nil_append, List.append_assoc, List.length_set, ite_bind_, List.take_left, BAe, bne, decide_int_eq, decide_not, wrap_mod, if_true, if_false, Bool.false_eq_true, bind_assoc_, slice_def, List.drop_zero, List.take_length, wrap_u8, bind_some_, cnd_eq_if, rdOf, ite_not, Bool.and_eq_true, Bool.or_eq_true, Bool.not_eq_true', bfalse, Bool.not_eq_false', beq_iff_eq, decide_eq_true_eq, isEmpty_eq, ite_and_, ite_or_, ne_eq, toList_mk, List.toList_toArray])
 repeat' first
 | (with_reducible refine LeO.trans ((All.natural_Parse.mono_l k).1 _ _) ?_; rw [All.natural_Parse.j0]; (try simp only [if_true, if_false, decide_eq_true_eq, Bool.false_eq_true, decide_not, ite_not, bne, decide_int_eq, beq_iff_eq, Bool.not_eq_true', bfalse, toList_mk, List.toList_toArray, ite_and_, ite_or_, Bool.and_eq_true, Bool.or_eq_true, isEmpty_eq, wrap_mod, wrap_u8, All.integer_zero.f, bind_some_, Int.toNat_natCast, Int.reduceToNat, Int.zero_sub, BAe]))
 | (with_reducible exact LeO.none _)
 | (with_reducible exact LeO.refl _)
 | (with_reducible refine LeO.posR (by with_reducible assumption) ?_)
 | (with_reducible refine LeO.negR (by with_reducible assumption) ?_)
 | (with_reducible refine LeO.bindR (by with_reducible assumption) ?_)
 | (with_reducible refine LeO.posL (by with_reducible assumption) ?_)
 | (with_reducible refine LeO.negL (by with_reducible assumption) ?_)
 | (with_reducible refine LeO.iteL (fun _ => ?_) (fun _ => ?_))
 | (with_reducible refine LeO.bindK (by with_reducible assumption) ?_)
 | (with_reducible refine LeO.bindL (fun _ _ => ?_))
 | (refine LeO.posR (by first | decide | exact Int.le_refl _ | omega | assumption) ?_)
 | (refine LeO.negR (by first | decide | omega) ?_)
theorem ok91 (k : Nat) : FeOk Go.Proofs.Try.prog (fe91 (FX91 k)) :=
 fe_ok EOK HM (es := fun k => fes91 (FX95 k) (FX108 k) (FX114 k) (FX115 k)) (fun k => List.forall_mem_cons.2 ⟨ok95 k, List.forall_mem_cons.2 ⟨ok108 k, List.forall_mem_cons.2 ⟨ok114 k, List.forall_mem_cons.2 ⟨ok115 k, List.forall_mem_nil _⟩⟩⟩⟩) (N := 76) (an := an91) (c := cd91) (f := 91) (fn := Go.Proofs.Try.f91) (rms := rm91) (ask := ask91) (rsk := rsk91) (enc := enc91) (dec := dec91) (tbl := [p91.getD 0 ⟨0, [], .skip⟩, p91.getD 1 ⟨0, [], .skip⟩, p91.getD 2 ⟨0, [], .skip⟩]) (fun s => rfl) Go.Proofs.Try.func91 (by kernel_rfl) (by kernel_rfl) (by kernel_rfl) (fun k => les91 (GX91l0 k) (GX91l1 k) (GX91l2 k))
  (List.forall_mem_cons.2 ⟨fun s => rfl, List.forall_mem_cons.2 ⟨fun s => rfl, List.forall_mem_cons.2 ⟨fun s => rfl, List.forall_mem_nil _⟩⟩⟩) (fun k s0 => .cons (by kernel_rfl) (by kernel_rfl) (fun s r h => (e91l0 (GX91l0 k) (GX91l1 k) (GX91l2 k) (FX95 k) (FX108 k) (FX114 k) (FX115 k) s0 s).trans (b91l0 k s.1.1 s.1.2.1 s.1.2.2.1 r h)) (.cons (by kernel_rfl) (by kernel_rfl) (fun s r h => (e91l1 (GX91l0 k) (GX91l1 k) (GX91l2 k) (FX95 k) (FX108 k) (FX114 k) (FX115 k) s0 s).trans (b91l1 k s.1.1 s.1.2.1 s.1.2.2.1 r h)) (.cons (by kernel_rfl) (by kernel_rfl) (fun s r h => (e91l2 (GX91l0 k) (GX91l1 k) (GX91l2 k) (FX95 k) (FX108 k) (FX114 k) (FX115 k) s0 s).trans (b91l2 k s.1.1 s.1.2.1 s.1.2.2.1 s.1.2.2.2.1 s.1.2.2.2.2.1 s.1.2.2.2.2.2.1 r h)) (.nil))))
  (F := fun k s => FX91 k s.1.1) (fun k s r h => (e91 (GX91l0 k) (GX91l1 k) (GX91l2 k) (FX95 k) (FX108 k) (FX114 k) (FX115 k) s).trans (b91 k s.1.1 r h)) k
theorem b49 (k : Nat) (x0 : ByteArray) : LeO (FX49 k x0) (B49 (FX53 k) (FX91 k) x0) := by
 show LeO (All.integer_Parse.f k x0) _
 unfold All.integer_Parse.f
 unfold B49
 (try simp only [FX53, FX91, All.integer_zero.f, All.exact_stepAt.f, All.S24.f0, All.S24.f1, All.rd_T24, All.z24])
 (try simp only [List.take_append_drop, List.drop_length, List.append_nil, Int.zero_sub, Int.toNat_natCast, Int.reduceToNat, Int.zero_add, List.take_zero, List.nil_append, List.append_assoc, List.length_set, ite_bind_, List.take_left, BAe, bne, decide_int_eq, decide_not, wrap_mod, if_true, if_false, Bool.false_eq_true, bind_assoc_, slice_def, List.drop_zero, List.take_length, wrap_u8, bind_some_, cnd_eq_if, rdOf, ite_not, Bool.and_eq_true, Bool.or_eq_true, Bool.not_eq_true', bfalse, Bool.not_eq_false', beq_iff_eq, decide_eq_true_eq, isEmpty_eq, ite_and_, ite_or_, ne_eq, toList_mk, List.toList_toArray])
 repeat' first
 | (with_reducible refine LeO.trans ((All.integer_Parse.mono_l k).1 _ _) ?_; rw [All.integer_Parse.j0]; (try simp only [if_true, if_false, decide_eq_true_eq, Bool.false_eq_true, decide_not, ite_not, bne, decide_int_eq, beq_iff_eq, Bool.not_eq_true', bfalse, toList_mk, List.toList_toArray, ite_and_, ite_or_, Bool.and_eq_true, Bool.or_eq_true, isEmpty_eq, wrap_mod, wrap_u8, All.integer_zero.f, bind_some_, Int.toNat_natCast, Int.reduceToNat, Int.zero_sub, BAe]))
 | (with_reducible refine LeO.trans ((All.integer_Parse.mono_l k).2 _ _) ?_; rw [All.integer_Parse.j1]; (try simp only [if_true, if_false, decide_eq_true_eq, Bool.false_eq_true, decide_not, ite_not, bne, decide_int_eq, beq_iff_eq, Bool.not_eq_true', bfalse, toList_mk, List.toList_toArray, ite_and_, ite_or_, Bool.and_eq_true, Bool.or_eq_true, isEmpty_eq, wrap_mod, wrap_u8, All.integer_zero.f, bind_some_, Int.toNat_natCast, Int.reduceToNat, Int.zero_sub, BAe]))
 | (with_reducible exact LeO.none _)
 | (with_reducible exact LeO.refl _)
 | (with_reducible refine LeO.posR (by with_reducible assumption) ?_)
 | (with_reducible refine LeO.negR (by with_reducible assumption) ?_)
 | (with_reducible refine LeO.bindR (by with_reducible assumption) ?_)
 | (with_reducible refine LeO.posL (by with_reducible assumption) ?_)
 | (with_reducible refine LeO.negL (by with_reducible assumption) ?_)
 | (with_reducible refine LeO.iteL (fun _ => ?_) (fun _ => ?_))
 | (with_reducible refine LeO.bindK (by with_reducible assumption) ?_)
 | (with_reducible refine LeO.bindL (fun _ _ => ?_))
 | (refine LeO.posR (by first | decide | exact Int.le_refl _ | omega | assumption) ?_)
 | (refine LeO.negR (by first | decide | omega) ?_)
theorem ok49 (k : Nat) : FeOk Go.Proofs.Try.prog (fe49 (FX49 k)) :=
 fe_ok EOK HM (es := fun k => fes49 (FX53 k) (FX91 k)) (fun k => List.forall_mem_cons.2 ⟨ok53 k, List.forall_mem_cons.2 ⟨ok91 k, List.forall_mem_nil _⟩⟩) (N := 40) (an := an49) (c := cd49) (f := 49) (fn := Go.Proofs.Try.f49) (rms := rm49) (ask := ask49) (rsk := rsk49) (enc := enc49) (dec := dec49) (tbl := []) (fun s => rfl) Go.Proofs.Try.func49 (by kernel_rfl) (by kernel_rfl) (by kernel_rfl) (fun k => les49)
  (List.forall_mem_nil _) (fun k s0 => .nil)
  (F := fun k s => FX49 k s.1.1) (fun k s r h => (e49 (FX53 k) (FX91 k) s).trans (b49 k s.1.1 r h)) k
end Go.Proofs.YtdhdfcjpeflinaaV
namespace Go.Proofs.YtdhdfcjpeflinaaN
open Go Go.RowKit Go.Proofs.Ytdhdfcjpeflinaa.All Go.Proofs.YtdhdfcjpeflinaaW.PrintWords Go.Proofs.YtdhdfcjpeflinaaW.PrintLast Go.Proofs.YtdhdfcjpeflinaaW.PrintMore
theorem awake_at : galoislaw02_awake.f 70 = some true := by kernel_rfl
theorem awake_ev : Ev (fun k => galoislaw02_awake.f k) true := Ev.of (fun k => galoislaw02_awake.mono k) awake_at
end Go.Proofs.YtdhdfcjpeflinaaN
set_option linter.unusedVariables false
set_option linter.unusedSimpArgs false
set_option maxRecDepth 100000
namespace Go.Proofs.YtdhdfcjpeflinaaV
open Go Go.RowKit Go.Proofs.Ytdhdfcjpeflinaa Go.Proofs.YtdhdfcjpeflinaaE Go.Proofs.YtdhdfcjpeflinaaW.PrintWords Go.Proofs.YtdhdfcjpeflinaaW.PrintLast Go.Proofs.YtdhdfcjpeflinaaW.PrintMore
@[reducible] noncomputable def FX11 (k : Nat) (x0 : (Bool × ByteArray)) (x1 : ByteArray) : Option R11 := B11 (FX12 k) (FX17 k) (FX19 k) (FX48 k) (FX49 k) (FX50 k) (FX51 k) x0 x1
theorem b11 (k : Nat) (x0 : (Bool × ByteArray)) (x1 : ByteArray) : LeO (FX11 k x0 x1) (B11 (FX12 k) (FX17 k) (FX19 k) (FX48 k) (FX49 k) (FX50 k) (FX51 k) x0 x1) := by exact LeO.refl _
theorem ok11 (k : Nat) : FeOk Go.Proofs.Try.prog (fe11 (FX11 k)) :=
 fe_ok EOK HM (es := fun k => fes11 (FX12 k) (FX17 k) (FX19 k) (FX48 k) (FX49 k) (FX50 k) (FX51 k)) (fun k => List.forall_mem_cons.2 ⟨ok12 k, List.forall_mem_cons.2 ⟨ok17 k, List.forall_mem_cons.2 ⟨ok19 k, List.forall_mem_cons.2 ⟨ok48 k, List.forall_mem_cons.2 ⟨ok49 k, List.forall_mem_cons.2 ⟨ok50 k, List.forall_mem_cons.2 ⟨ok51 k, List.forall_mem_nil _⟩⟩⟩⟩⟩⟩⟩) (N := 82) (an := an11) (c := cd11) (f := 11) (fn := Go.Proofs.Try.f11) (rms := rm11) (ask := ask11) (rsk := rsk11) (enc := enc11) (dec := dec11) (tbl := []) (fun s => rfl) Go.Proofs.Try.func11 (by kernel_rfl) (by kernel_rfl) (by kernel_rfl) (fun k => les11)
  (List.forall_mem_nil _) (fun k s0 => .nil)
  (F := fun k s => FX11 k s.1.1 s.1.2.1) (fun k s r h => (e11 (FX12 k) (FX17 k) (FX19 k) (FX48 k) (FX49 k) (FX50 k) (FX51 k) s).trans (b11 k s.1.1 s.1.2.1 r h)) k
theorem calls11 (a0 : Bool) (a1 : ByteArray) (s : ByteArray) (h : ∃ k, FX11 k (a0, a1) s = some true) (w : World) :
  Calls Go.Proofs.Try.prog 11 #[.agg #[.bool a0, .string a1], .string s] w fun e w' => e = .returned (.bool true) ∧ Below w.heap.size w w' := by
 obtain ⟨k, hk⟩ := h
 have hc := ok11 k (((a0, a1), (s, ())), ()) true hk (.a (.v .bo true)) rfl
 exact calls_of_ct (vs := [.agg #[.bool a0, .string a1], .string s]) Go.Proofs.Try.func11 (by kernel_rfl) (c := cd11) (by kernel_rfl) hc (fun w bl φ => .cons rep_bs (.cons rep_str (.nil))) (fun w bl φ v h => rep_true h) w
end Go.Proofs.YtdhdfcjpeflinaaV
set_option linter.unusedVariables false
namespace Go.Proofs.YtdhdfcjpeflinaaN
open Go.Proofs.YtdhdfcjpeflinaaW.PrintWords
def vB (B : Int) : List Int → Int
 | [] => 0
 | x :: xs => x + B * vB B xs
def Dig (B : Int) (l : List Int) : Prop := ∀ x, x ∈ l → 0 ≤ x ∧ x < B
def Trim (l : List Int) : Prop := 0 < l.length → rd l (l.length - 1 : Nat) ≠ 0
theorem vB_cons (B x : Int) (xs : List Int) : vB B (x :: xs) = x + B * vB B xs := rfl
theorem Dig_nil (B : Int) : Dig B [] := fun _ h => absurd h (List.not_mem_nil)
theorem Dig_cons {B x : Int} {xs : List Int} : Dig B (x :: xs) ↔ (0 ≤ x ∧ x < B) ∧ Dig B xs := by
 constructor
 ·intro h
  exact ⟨h x (List.mem_cons_self), fun y hy => h y (List.mem_cons_of_mem _ hy)⟩
 ·rintro ⟨h1, h2⟩ y hy
  rcases List.mem_cons.1 hy with rfl | hy
  ·exact h1
  ·exact h2 y hy
theorem Dig_append {B : Int} {xs ys : List Int} (hx : Dig B xs) (hy : Dig B ys) : Dig B (xs ++ ys) := by
 intro z hz
 rcases List.mem_append.1 hz with h | h
 ·exact hx z h
 ·exact hy z h
theorem Dig_take {B : Int} {xs : List Int} (h : Dig B xs) (n : Nat) : Dig B (xs.take n) := fun z hz => h z (List.mem_of_mem_take hz)
theorem Dig_drop {B : Int} {xs : List Int} (h : Dig B xs) (n : Nat) : Dig B (xs.drop n) := fun z hz => h z (List.mem_of_mem_drop hz)
theorem Dig_set {B : Int} {xs : List Int} (h : Dig B xs) (n : Nat) {v : Int} (h0 : 0 ≤ v) (h1 : v < B) : Dig B (xs.set n v) := by
 intro z hz
 rcases List.mem_or_eq_of_mem_set hz with hz | rfl
 ·exact h z hz
 ·exact ⟨h0, h1⟩
theorem Dig_replicate {B : Int} (hB : 0 < B) (n : Nat) : Dig B (List.replicate n 0) := by
 intro z hz
 rw [List.eq_of_mem_replicate hz]
 exact ⟨Int.le_refl _, hB⟩
theorem Dig_reverse {B : Int} {xs : List Int} (h : Dig B xs) : Dig B xs.reverse := fun z hz => h z (List.mem_reverse.1 hz)
theorem rd_nat (xs : List Int) (n : Nat) : rd xs (n : Int) = xs.getD n 0 := by simp [rd]
theorem rd_get (xs : List Int) (n : Nat) (h : n < xs.length) : rd xs (n : Int) = xs[n] := by
 rw [rd_nat, List.getD_eq_getElem?_getD, List.getElem?_eq_getElem h]
 rfl
theorem Dig_rd {B : Int} {xs : List Int} (h : Dig B xs) (n : Nat) (hn : n < xs.length) : 0 ≤ rd xs (n : Int) ∧ rd xs (n : Int) < B := by
 rw [rd_get xs n hn]
 exact h _ (List.getElem_mem hn)
theorem Dig_rd0 {B : Int} (hB : 0 < B) {xs : List Int} (h : Dig B xs) (n : Nat) : 0 ≤ rd xs (n : Int) ∧ rd xs (n : Int) < B := by
 rcases Nat.lt_or_ge n xs.length with hn | hn
 ·exact Dig_rd h n hn
 ·rw [rd_nat, List.getD_eq_getElem?_getD, List.getElem?_eq_none hn]
  exact ⟨Int.le_refl _, hB⟩
theorem vB_append (B : Int) (xs ys : List Int) : vB B (xs ++ ys) = vB B xs + B ^ xs.length * vB B ys := by
 induction xs with
 | nil => simp [vB]
 | cons x xs ih =>
  rw [List.cons_append, vB_cons, ih, vB_cons, List.length_cons, Int.pow_succ, Int.mul_add, ← Int.add_assoc, ← Int.mul_assoc, Int.mul_comm B (B ^ xs.length)]
theorem vB_replicate (B : Int) (n : Nat) : vB B (List.replicate n 0) = 0 := by
 induction n with
 | zero => rfl
 | succ n ih => rw [List.replicate_succ, vB_cons, ih]; simp
theorem vB_nonneg {B : Int} (hB : 0 ≤ B) {l : List Int} (h : Dig B l) : 0 ≤ vB B l := by
 induction l with
 | nil => exact Int.le_refl _
 | cons x xs ih =>
  have := Dig_cons.1 h
  rw [vB_cons]
  exact Int.add_nonneg this.1.1 (Int.mul_nonneg hB (ih this.2))
theorem vB_lt {B : Int} (hB : 0 < B) {l : List Int} (h : Dig B l) : vB B l < B ^ l.length := by
 induction l with
 | nil => simp [vB]
 | cons x xs ih =>
  have hd := Dig_cons.1 h
  have h1 := ih hd.2
  rw [vB_cons, List.length_cons, Int.pow_succ, Int.mul_comm (B ^ xs.length) B]
  have h2 : B * (vB B xs + 1) ≤ B * B ^ xs.length := Int.mul_le_mul_of_nonneg_left (by omega) (by omega)
  rw [Int.mul_add, Int.mul_one] at h2
  omega
theorem vB_split (B : Int) (l : List Int) (n : Nat) (h : n ≤ l.length) : vB B l = vB B (l.take n) + B ^ n * vB B (l.drop n) := by
 conv => lhs; rw [← List.take_append_drop n l]
 rw [vB_append, List.length_take, Nat.min_eq_left h]
theorem vB_take_succ (B : Int) (l : List Int) (n : Nat) (h : n < l.length) : vB B (l.take (n + 1)) = vB B (l.take n) + B ^ n * rd l (n : Int) := by
 rw [List.take_succ_eq_append_getElem h, vB_append, List.length_take, Nat.min_eq_left (by omega), rd_get l n h]
 simp [vB]
theorem vB_set (B : Int) (l : List Int) (n : Nat) (v : Int) (h : n < l.length) : vB B (l.set n v) = vB B l + B ^ n * (v - rd l (n : Int)) := by
 induction l generalizing n with
 | nil => simp at h
 | cons x xs ih =>
  cases n with
  | zero => simp [vB, rd]; omega
  | succ n =>
   have h' : n < xs.length := by simpa using h
   rw [List.set_cons_succ, vB_cons, ih n h', vB_cons]
   have : rd (x :: xs) ((n + 1 : Nat) : Int) = rd xs (n : Int) := by rw [rd_nat, rd_nat]; simp
   rw [this, Int.pow_succ, Int.mul_add, ← Int.add_assoc, ← Int.mul_assoc, Int.mul_comm B (B ^ n)]
theorem set_eq (l : List Int) (n : Nat) (h : n < l.length) : l.set n (rd l (n : Int)) = l := by
 rw [rd_get l n h, List.set_getElem_self]
theorem rd_set_self (l : List Int) (n : Nat) (v : Int) (h : n < l.length) : rd (l.set n v) (n : Int) = v := by
 rw [rd_get _ n (by simpa using h), List.getElem_set_self]
theorem rd_set_ne (l : List Int) (n m : Nat) (v : Int) (h : n ≠ m) : rd (l.set n v) (m : Int) = rd l (m : Int) := by
 rw [rd_nat, rd_nat, List.getD_eq_getElem?_getD, List.getD_eq_getElem?_getD, List.getElem?_set_ne h]
theorem rd_append_right (xs ys : List Int) (n : Nat) : rd (xs ++ ys) ((xs.length + n : Nat) : Int) = rd ys (n : Int) := by
 rw [rd_nat, rd_nat, List.getD_eq_getElem?_getD, List.getD_eq_getElem?_getD, List.getElem?_append_right (by omega)]
 congr 2
 omega
theorem rd_take (xs : List Int) (n m : Nat) (h : m < n) : rd (xs.take n) (m : Int) = rd xs (m : Int) := by
 rw [rd_nat, rd_nat, List.getD_eq_getElem?_getD, List.getD_eq_getElem?_getD, List.getElem?_take_of_lt h]
theorem rd_drop (xs : List Int) (n m : Nat) : rd (xs.drop n) (m : Int) = rd xs ((n + m : Nat) : Int) := by
 rw [rd_nat, rd_nat, List.getD_eq_getElem?_getD, List.getD_eq_getElem?_getD, List.getElem?_drop]
theorem rd_replicate (n m : Nat) : rd (List.replicate n 0) (m : Int) = 0 := by
 rw [rd_nat, List.getD_eq_getElem?_getD, List.getElem?_replicate]
 split <;> rfl
theorem dig_inj {B : Int} (hB : 0 < B) : ∀ {l m : List Int}, Dig B l → Dig B m → l.length = m.length → vB B l = vB B m → l = m
 | [], [], _, _, _, _ => rfl
 | [], y :: ys, _, _, h, _ => by simp at h
 | x :: xs, [], _, _, h, _ => by simp at h
 | x :: xs, y :: ys, hl, hm, h, hv => by
  have h1 := Dig_cons.1 hl
  have h2 := Dig_cons.1 hm
  rw [vB_cons, vB_cons] at hv
  have hx : x = y := by
   have e1 : (x + B * vB B xs) % B = x := by rw [Int.add_mul_emod_self_left, Int.emod_eq_of_lt h1.1.1 h1.1.2]
   have e2 : (y + B * vB B ys) % B = y := by rw [Int.add_mul_emod_self_left, Int.emod_eq_of_lt h2.1.1 h2.1.2]
   rw [← e1, ← e2, hv]
  subst hx
  have hv' : B * vB B xs = B * vB B ys := by omega
  have := Int.eq_of_mul_eq_mul_left (by omega) hv'
  rw [dig_inj hB h1.2 h2.2 (by simpa using h) this]
theorem trim_le {B : Int} (hB : 0 < B) {l : List Int} (h : Dig B l) (ht : Trim l) (hp : 0 < l.length) : B ^ (l.length - 1) ≤ vB B l := by
 have e : l.take (l.length - 1 + 1) = l := List.take_of_length_le (by omega)
 have h1 := vB_take_succ B l (l.length - 1) (by omega)
 rw [e] at h1
 rw [h1]
 have h2 := vB_nonneg (Int.le_of_lt hB) (Dig_take h (l.length - 1))
 have h3 := (Dig_rd h (l.length - 1) (by omega)).1
 have h4 : 1 ≤ rd l ((l.length - 1 : Nat) : Int) := by have := ht hp; omega
 have h5 : B ^ (l.length - 1) * 1 ≤ B ^ (l.length - 1) * rd l ((l.length - 1 : Nat) : Int) := Int.mul_le_mul_of_nonneg_left h4 (Int.le_of_lt (Int.pow_pos hB))
 rw [Int.mul_one] at h5
 omega
theorem pow_le_pow {B : Int} (hB : 0 < B) {m n : Nat} (h : m ≤ n) : B ^ m ≤ B ^ n := by
 obtain ⟨j, rfl⟩ : ∃ j, n = m + j := ⟨n - m, by omega⟩
 rw [Int.pow_add]
 have h1 : 1 ≤ B ^ j := by have : 0 < B ^ j := Int.pow_pos hB; omega
 have h2 : B ^ m * 1 ≤ B ^ m * B ^ j := Int.mul_le_mul_of_nonneg_left h1 (Int.le_of_lt (Int.pow_pos hB))
 rwa [Int.mul_one] at h2
theorem trim_len {B : Int} (hB : 0 < B) {l m : List Int} (hl : Dig B l) (hm : Dig B m) (ht : Trim m) (h : l.length < m.length) : vB B l < vB B m := by
 have h1 := vB_lt hB hl
 have h2 := trim_le hB hm ht (by omega)
 have h3 := pow_le_pow hB (show l.length ≤ m.length - 1 by omega)
 omega
theorem trim_inj {B : Int} (hB : 0 < B) {l m : List Int} (hl : Dig B l) (hm : Dig B m) (tl : Trim l) (tm : Trim m) (hv : vB B l = vB B m) : l = m := by
 rcases Nat.lt_trichotomy l.length m.length with h | h | h
 ·have := trim_len hB hl hm tm h; omega
 ·exact dig_inj hB hl hm h hv
 ·have := trim_len hB hm hl tl h; omega
def dgs (b : Nat) (n : Nat) : List Int :=
 if h : n = 0 then [] else ((n % (b + 2) : Nat) : Int) :: dgs b (n / (b + 2))
termination_by n
decreasing_by exact Nat.div_lt_self (by omega) (by omega)
theorem dgs_zero (b : Nat) : dgs b 0 = [] := by rw [dgs]; simp
theorem dgs_pos (b n : Nat) (h : n ≠ 0) : dgs b n = ((n % (b + 2) : Nat) : Int) :: dgs b (n / (b + 2)) := by rw [dgs]; simp [h]
theorem dgs_spec (b : Nat) : ∀ n, Dig (b + 2 : Nat) (dgs b n) ∧ Trim (dgs b n) ∧ vB (b + 2 : Nat) (dgs b n) = n := by
 intro n
 induction n using Nat.strongRecOn with
 | _ n ih =>
  by_cases h : n = 0
  ·subst h
   rw [dgs_zero]
   exact ⟨Dig_nil _, fun h => absurd h (by simp), rfl⟩
  ·obtain ⟨h1, h2, h3⟩ := ih (n / (b + 2)) (Nat.div_lt_self (by omega) (by omega))
   rw [dgs_pos b n h]
   have hm := Nat.mod_lt n (show 0 < b + 2 by omega)
   have hd := Nat.div_add_mod n (b + 2)
   refine ⟨Dig_cons.2 ⟨⟨by omega, by omega⟩, h1⟩, ?_, ?_⟩
   ·intro _
    by_cases hz : n / (b + 2) = 0
    ·rw [hz, dgs_zero]
     show rd [((n % (b + 2) : Nat) : Int)] ((0 : Nat) : Int) ≠ 0
     rw [hz] at hd
     have : ((n % (b + 2) : Nat) : Int) ≠ 0 := by omega
     simpa [rd] using this
    ·have hl : 0 < (dgs b (n / (b + 2))).length := by rw [dgs_pos _ _ hz]; simp
     have := h2 hl
     rw [List.length_cons, Nat.add_sub_cancel]
     obtain ⟨q, hq⟩ : ∃ q, (dgs b (n / (b + 2))).length = q + 1 := ⟨(dgs b (n / (b + 2))).length - 1, by omega⟩
     rw [hq] at this ⊢
     rw [rd_nat] at this ⊢
     simpa using this
   ·rw [vB_cons, h3]
    have : ((b + 2 : Nat) : Int) * ((n / (b + 2) : Nat) : Int) + ((n % (b + 2) : Nat) : Int) = n := by exact_mod_cast hd
    omega
theorem dgs_unique {b : Nat} {l : List Int} {n : Nat} (hl : Dig (b + 2 : Nat) l) (ht : Trim l) (hv : vB (b + 2 : Nat) l = n) : l = dgs b n := by
 obtain ⟨h1, h2, h3⟩ := dgs_spec b n
 exact trim_inj (by omega) hl h1 ht h2 (by rw [hv, h3])
theorem dgs_len {b n k : Nat} (h : n < (b + 2) ^ k) : (dgs b n).length ≤ k := by
 obtain ⟨h1, h2, h3⟩ := dgs_spec b n
 rcases Nat.lt_or_ge k (dgs b n).length with hk | hk
 ·have h4 := trim_le (by omega) h1 h2 (by omega)
  rw [h3] at h4
  have h5 := pow_le_pow (B := ((b + 2 : Nat) : Int)) (by omega) (show k ≤ (dgs b n).length - 1 by omega)
  have h6 : ((n : Nat) : Int) < ((b + 2 : Nat) : Int) ^ k := by exact_mod_cast h
  omega
 ·exact hk
theorem dgs_lt (b n : Nat) : n < (b + 2) ^ (dgs b n).length := by
 obtain ⟨h1, h2, h3⟩ := dgs_spec b n
 have := vB_lt (by omega) h1
 rw [h3] at this
 exact_mod_cast this
end Go.Proofs.YtdhdfcjpeflinaaN
set_option linter.unusedVariables false
namespace Go.Proofs.YtdhdfcjpeflinaaN
open Go.RowKit Go.Proofs.Ytdhdfcjpeflinaa.All Go.Proofs.YtdhdfcjpeflinaaW.PrintWords Go.Proofs.YtdhdfcjpeflinaaW.PrintLast Go.Proofs.YtdhdfcjpeflinaaW.PrintMore
theorem w64 {x : Int} (h0 : -9223372036854775808 ≤ x) (h1 : x < 9223372036854775808) : wrap64 x = x := by unfold wrap64; omega
theorem u64 {x : Int} (h0 : 0 ≤ x) (h1 : x < 18446744073709551616) : IntKind.u64.wrap x = x := by
 simp [IntKind.wrap, IntKind.bits, IntKind.signed]
 omega
theorem u64_mod (x : Int) : IntKind.u64.wrap x = x % 18446744073709551616 := by simp [IntKind.wrap, IntKind.bits, IntKind.signed]
abbrev B64 : Int := 18446744073709551616
def d64 (n : Nat) : List Int := dgs 18446744073709551614 n
theorem d64_dig (n : Nat) : Dig B64 (d64 n) := (dgs_spec 18446744073709551614 n).1
theorem d64_trim (n : Nat) : Trim (d64 n) := (dgs_spec 18446744073709551614 n).2.1
theorem d64_val (n : Nat) : vB B64 (d64 n) = n := (dgs_spec 18446744073709551614 n).2.2
theorem d64_unique {l : List Int} {n : Nat} (hl : Dig B64 l) (ht : Trim l) (hv : vB B64 l = n) : l = d64 n := dgs_unique hl ht hv
theorem d64_zero : d64 0 = [] := dgs_zero _
def d8 (n : Nat) : List Int := dgs 254 n
theorem d8_dig (n : Nat) : Dig 256 (d8 n) := (dgs_spec 254 n).1
theorem d8_trim (n : Nat) : Trim (d8 n) := (dgs_spec 254 n).2.1
theorem d8_val (n : Nat) : vB 256 (d8 n) = n := (dgs_spec 254 n).2.2
theorem d8_unique {l : List Int} {n : Nat} (hl : Dig 256 l) (ht : Trim l) (hv : vB 256 l = n) : l = d8 n := dgs_unique hl ht hv
def nat (n : Nat) : ByteArray := strOfNums (d8 n).reverse
theorem bytesOf_str {l : List Int} (h : Dig 256 l) : bytesOf (strOfNums l) = l := by
 unfold bytesOf
 rw [strOfNums_data, List.map_map]
 conv => rhs; rw [← List.map_id l]
 refine List.map_congr_left fun x hx => ?_
 have := h x hx
 simp [UInt8.toNat_ofNat']
 omega
theorem str_bytesOf (s : ByteArray) : strOfNums (bytesOf s) = s := by
 unfold strOfNums bytesOf
 rw [List.map_map]
 have : List.map ((fun n : Int => UInt8.ofNat n.toNat) ∘ fun b : UInt8 => (b.toNat : Int)) s.data.toList = s.data.toList := by
  conv => rhs; rw [← List.map_id s.data.toList]
  refine List.map_congr_left fun x _ => ?_
  simp
 rw [this]
theorem bytesOf_dig (s : ByteArray) : Dig 256 (bytesOf s) := by
 intro x hx
 unfold bytesOf at hx
 obtain ⟨b, _, rfl⟩ := List.mem_map.1 hx
 have := b.toNat_lt
 omega
theorem str_ext {s t : ByteArray} (h : bytesOf s = bytesOf t) : s = t := by rw [← str_bytesOf s, h, str_bytesOf]
theorem toList_nil {s : ByteArray} : s.toList = [] ↔ s.size = 0 := by
 rw [ByteArray.toList_eq, ← List.length_eq_zero_iff, data_length]
theorem nat_bytes (n : Nat) : bytesOf (nat n) = (d8 n).reverse := bytesOf_str (Dig_reverse (d8_dig n))
theorem nat_size (n : Nat) : (nat n).size = (d8 n).length := by rw [← bytesOf_length, nat_bytes, List.length_reverse]
def bval (s : ByteArray) : Int := vB 256 (bytesOf s).reverse
theorem bval_nat (n : Nat) : bval (nat n) = n := by unfold bval; rw [nat_bytes, List.reverse_reverse, d8_val]
theorem bval_nonneg (s : ByteArray) : 0 ≤ bval s := vB_nonneg (by decide) (Dig_reverse (bytesOf_dig s))
theorem rd_reverse (l : List Int) (n : Nat) (h : n < l.length) : rd l.reverse (n : Int) = rd l ((l.length - 1 - n : Nat) : Int) := by
 rw [rd_get _ n (by simpa using h), rd_get _ _ (by omega), List.getElem_reverse]
theorem bt_rd (s : ByteArray) (i : Int) : bt s i = rd (bytesOf s) i := (rd_bytesOf s i).symm
theorem wf_nat {s : ByteArray} (h : s.size = 0 ∨ bt s 0 ≠ 0) : s = nat (bval s).toNat := by
 apply str_ext
 rw [nat_bytes]
 have ht : Trim (bytesOf s).reverse := by
  intro hp
  rw [List.length_reverse] at hp ⊢
  rw [rd_reverse _ _ (by omega), bt_rd] at *
  rw [bytesOf_length] at hp
  have e : (bytesOf s).length - 1 - ((bytesOf s).length - 1) = 0 := by omega
  rw [e]
  rcases h with h | h
  ·omega
  ·exact h
 have := d8_unique (n := (bval s).toNat) (Dig_reverse (bytesOf_dig s)) ht (by have := bval_nonneg s; unfold bval at this ⊢; omega)
 rw [← this, List.reverse_reverse]
theorem nat_wf (n : Nat) : (nat n).size = 0 ∨ bt (nat n) 0 ≠ 0 := by
 rcases Nat.eq_zero_or_pos (d8 n).length with h | h
 ·left; rw [nat_size, h]
 ·right
  rw [bt_rd, nat_bytes]
  have := d8_trim n h
  have e := rd_reverse (d8 n) 0 (by omega)
  rw [show (d8 n).length - 1 - 0 = (d8 n).length - 1 by omega] at e
  rw [← e] at this
  exact this
theorem nat_zero : nat 0 = ⟨#[]⟩ := by unfold nat d8; rw [dgs_zero]; rfl
theorem nat_size_zero {n : Nat} : (nat n).size = 0 ↔ n = 0 := by
 constructor
 ·intro h
  rw [nat_size] at h
  have := d8_val n
  rw [List.eq_nil_of_length_eq_zero h] at this
  simp [vB] at this
  omega
 ·rintro rfl; rw [nat_zero]; rfl
theorem nat_size_le {n k : Nat} : (nat n).size ≤ k ↔ n < 256 ^ k := by
 rw [nat_size]
 constructor
 ·intro h
  exact Nat.lt_of_lt_of_le (dgs_lt 254 n) (Nat.pow_le_pow_right (by decide) h)
 ·intro h
  exact dgs_len h
theorem nat_lt_size (n : Nat) : n < 256 ^ (nat n).size := nat_size_le.1 (Nat.le_refl _)
theorem vB_zero (B : Int) : ∀ {l : List Int}, (∀ j : Nat, j < l.length → rd l (j : Int) = 0) → vB B l = 0
 | [], _ => rfl
 | x :: xs, h => by
  have h0 : x = 0 := h 0 (by simp)
  have := vB_zero B (l := xs) (fun j hj => by
   have := h (j + 1) (by simpa using hj)
   rw [rd_nat] at this ⊢
   simpa using this)
  rw [vB_cons, h0, this]
  simp
theorem vB_low (B : Int) {l : List Int} {n : Nat} (hn : n ≤ l.length) (h : ∀ j : Nat, n ≤ j → j < l.length → rd l (j : Int) = 0) : vB B l = vB B (l.take n) := by
 rw [vB_split B l n hn, vB_zero B (l := l.drop n) (fun j hj => by rw [rd_drop]; exact h _ (by omega) (by simp at hj; omega))]
 simp
theorem trim_l0 (l : List Int) (hd : Dig B64 l) (hl : l.length < 9223372036854775808) : ∀ n : Nat, n ≤ l.length → (∀ j : Nat, n ≤ j → j < l.length → rd l (j : Int) = 0) → Ev (fun k => exact_trim.l0 k l (n : Int)) (d64 (vB B64 l).toNat) := by
 have hv := vB_nonneg (by decide) hd
 intro n
 induction n with
 | zero =>
  intro hn h
  refine Ev.step (f := fun _ => some (d64 (vB B64 l).toNat)) (fun k => ?_) (Ev.now _)
  simp only [exact_trim.l0]
  rw [if_neg (by omega), if_pos (by omega), if_pos (by omega)]
  have := vB_low B64 hn h
  rw [this]
  simp [vB, d64_zero]
 | succ n ih =>
  intro hn h
  have e1 : wrap64 (((n + 1 : Nat) : Int) - 1) = (n : Int) := by rw [w64 (by omega) (by omega)]; omega
  by_cases hz : rd l (n : Int) = 0
  ·refine Ev.step (f := fun k => exact_trim.l0 k l (n : Int)) (fun k => ?_) (ih (by omega) (fun j hj hjl => ?_))
   ·simp only [exact_trim.l0, e1]
    rw [if_pos (by omega), if_pos (by omega), if_pos (by omega), if_pos hz]
   ·rcases Nat.lt_or_ge n j with hlt | hge
    ·exact h j hlt hjl
    ·have : j = n := by omega
     subst this
     exact hz
  ·refine Ev.step (f := fun _ => some (d64 (vB B64 l).toNat)) (fun k => ?_) (Ev.now _)
   simp only [exact_trim.l0, e1]
   rw [if_pos (by omega), if_pos (by omega), if_pos (by omega), if_neg hz, if_pos (by omega), if_pos (by omega)]
   congr 1
   have hlen : (l.take (n + 1)).length = n + 1 := by rw [List.length_take]; omega
   refine d64_unique (Dig_take hd _) (fun _ => ?_) ?_
   ·rw [Int.toNat_natCast, hlen, Nat.add_sub_cancel, rd_take l _ _ (by omega)]
    exact hz
   ·rw [Int.toNat_natCast, ← vB_low B64 hn h]
    omega
theorem trim_ev {l : List Int} (hd : Dig B64 l) (hl : l.length < 9223372036854775808) : Ev (fun k => exact_trim.f k l) (d64 (vB B64 l).toNat) :=
 trim_l0 l hd hl l.length (Nat.le_refl _) (fun j h1 h2 => absurd h1 (by omega))
end Go.Proofs.YtdhdfcjpeflinaaN
set_option linter.unusedVariables false
namespace Go.Proofs.YtdhdfcjpeflinaaN
open Go.RowKit Go.Proofs.Ytdhdfcjpeflinaa.All Go.Proofs.YtdhdfcjpeflinaaW.PrintWords Go.Proofs.YtdhdfcjpeflinaaW.PrintLast Go.Proofs.YtdhdfcjpeflinaaW.PrintMore
theorem wraps_u64 (n : Int) (h0 : 0 ≤ n) (h1 : n < 2 ^ 64) : IntKind.u64.wrap n = n := u64 h0 (by simpa using h1)
theorem pow8 (q r : Nat) : (B64 : Int) ^ q * 256 ^ r = 256 ^ (8 * q + r) := by
 have e : (256 : Int) ^ 8 = B64 := rfl
 rw [Int.pow_add, Int.pow_mul, e]
theorem high_succ (s : ByteArray) (i : Nat) (h : i < s.size) : vB 256 ((bytesOf s).take (i + 1)).reverse = bt s i + 256 * vB 256 ((bytesOf s).take i).reverse := by
 rw [List.take_succ_eq_append_getElem (by rw [bytesOf_length]; exact h), List.reverse_append, bt_rd, rd_get _ i (by rw [bytesOf_length]; exact h)]
 rfl
theorem high_all (s : ByteArray) : vB 256 ((bytesOf s).take s.size).reverse = bval s := by
 rw [List.take_of_length_le (by rw [bytesOf_length]; exact Nat.le_refl _)]
 rfl
theorem word_or (x c : Int) (r : Nat) (hr : r < 8) (hx0 : 0 ≤ x) (hx1 : x < B64) (hm : x % 256 ^ (r + 1) = 0) (hc0 : 0 ≤ c) (hc1 : c ≤ 255) :
  Go.bits .or .u64 x (shl .u64 (IntKind.u64.wrap c) (8 * r : Nat)) = x + c * 256 ^ r ∧ 0 ≤ x + c * 256 ^ r ∧ x + c * 256 ^ r < B64 ∧ (x + c * 256 ^ r) % 256 ^ r = 0 := by
 have h64 : (B64 : Int) = 18446744073709551616 := rfl
 have hs : shl .u64 (IntKind.u64.wrap c) (8 * r : Nat) = c * 256 ^ r := by
  unfold shl
  rw [u64 hc0 (by omega), Int.toNat_natCast]
  have : min (8 * r) IntKind.u64.bits = 8 * r := Nat.min_eq_left (by show 8 * r ≤ 64; omega)
  rw [this, Int.pow_mul]
  have e : (2 : Int) ^ 8 = 256 := rfl
  rw [e]
  apply u64
  ·exact Int.mul_nonneg hc0 (Int.le_of_lt (Int.pow_pos (by decide)))
  ·have : r = 0 ∨ r = 1 ∨ r = 2 ∨ r = 3 ∨ r = 4 ∨ r = 5 ∨ r = 6 ∨ r = 7 := by omega
   rcases this with rfl | rfl | rfl | rfl | rfl | rfl | rfl | rfl <;> omega
 rw [hs]
 have hb : 0 ≤ c * 256 ^ r ∧ c * 256 ^ r < 256 ^ (r + 1) ∧ 0 ≤ x + c * 256 ^ r ∧ x + c * 256 ^ r < B64 ∧ (x + c * 256 ^ r) % 256 ^ r = 0 ∧ c * 256 ^ r < 2 ^ 64 := by
  have : r = 0 ∨ r = 1 ∨ r = 2 ∨ r = 3 ∨ r = 4 ∨ r = 5 ∨ r = 6 ∨ r = 7 := by omega
  rcases this with rfl | rfl | rfl | rfl | rfl | rfl | rfl | rfl <;> (clear hs; simp only [B64] at hx1 ⊢; omega)
 refine ⟨?_, hb.2.2.1, hb.2.2.2.1, hb.2.2.2.2.1⟩
 have hp : (2 : Int) ^ (8 * (r + 1)) = 256 ^ (r + 1) := by rw [Int.pow_mul]; rfl
 exact bits_join .u64 64 (by decide) wraps_u64 (8 * (r + 1)) x (c * 256 ^ r) hx0 (by rw [hp]; exact hm) (by rw [h64] at hx1; simpa using hx1) hb.1 (by rw [hp]; exact hb.2.1) hb.2.2.2.2.2
theorem words_l0 (s : ByteArray) (hs : s.size ≤ 1099511627776) : ∀ (d i : Nat) (w : List Int), i + d = s.size → w.length = (s.size + 7) / 8 → Dig B64 w → vB B64 w = vB 256 ((bytesOf s).take i).reverse * 256 ^ d →
  (0 < d → rd w ((d - 1) / 8 : Nat) % 256 ^ ((d - 1) % 8 + 1) = 0 ∧ ∀ q : Nat, q < (d - 1) / 8 → rd w (q : Int) = 0) → Ev (fun k => exact_words.l0 k s w (s.size : Int) (i : Int)) (d64 (bval s).toNat) := by
 intro d
 induction d with
 | zero =>
  intro i w hi hl hd hv _
  have hi : i = s.size := by omega
  subst hi
  have hv' : vB B64 w = bval s := by rw [hv, high_all]; simp
  refine Ev.step (f := fun k => (exact_trim.f k w).bind fun t => some t) (fun k => ?_) (Ev.bind (trim_ev hd (by omega)) ?_)
  ·simp only [exact_words.l0]
   rw [if_neg (by omega)]
  ·rw [hv']
   exact Ev.now _
 | succ d ih =>
  intro i w hi hl hd hv hz
  obtain ⟨hz1, hz2⟩ := hz (by omega)
  rw [Nat.add_sub_cancel] at hz1 hz2
  have hq : d / 8 < w.length := by omega
  have hr : d % 8 < 8 := Nat.mod_lt _ (by decide)
  have e1 : wrap64 (Int.tdiv (wrap64 (wrap64 ((s.size : Int) - 1) - (i : Int))) 8) = ((d / 8 : Nat) : Int) := by
   rw [w64 (x := (s.size : Int) - 1) (by omega) (by omega), w64 (x := (s.size : Int) - 1 - (i : Int)) (by omega) (by omega)]
   have : (s.size : Int) - 1 - (i : Int) = (d : Int) := by omega
   rw [this, Int.tdiv_eq_ediv_of_nonneg (by omega), w64 (by omega) (by omega)]
   omega
  have e2 : wrap64 (8 * Int.tmod (wrap64 (wrap64 ((s.size : Int) - 1) - (i : Int))) 8) = ((8 * (d % 8) : Nat) : Int) := by
   rw [w64 (x := (s.size : Int) - 1) (by omega) (by omega), w64 (x := (s.size : Int) - 1 - (i : Int)) (by omega) (by omega)]
   have : (s.size : Int) - 1 - (i : Int) = (d : Int) := by omega
   rw [this, Int.tmod_eq_emod_of_nonneg (by omega), w64 (by omega) (by omega)]
   omega
  have e3 : wrap64 ((i : Int) + 1) = ((i + 1 : Nat) : Int) := by rw [w64 (by omega) (by omega)]; omega
  have c1 : (i : Int) < (s.size : Int) := by omega
  have c3 : ((d / 8 : Nat) : Int) < (w.length : Int) := Int.ofNat_lt.2 hq
  have c4 : 0 < (d / 8 : Nat) → d % 8 = 0 → (d - 1) / 8 = d / 8 - 1 := by omega
  have hi' : i + 1 + d = s.size := by omega
  obtain ⟨hx0, hx1⟩ := Dig_rd hd (d / 8) hq
  obtain ⟨hc0, hc1⟩ := bt_range s (i : Int)
  obtain ⟨ho, ho0, ho1, ho2⟩ := word_or (rd w ((d / 8 : Nat) : Int)) (bt s (i : Int)) (d % 8) hr hx0 hx1 hz1 hc0 hc1
  have hk : 8 * (d / 8) + d % 8 = d := Nat.div_add_mod d 8
  refine Ev.step (f := fun k => exact_words.l0 k s (w.set (d / 8) (rd w ((d / 8 : Nat) : Int) + bt s (i : Int) * 256 ^ (d % 8))) (s.size : Int) ((i + 1 : Nat) : Int)) (fun k => ?_) (ih (i + 1) _ hi' (by rw [List.length_set]; exact hl) (Dig_set hd _ ho0 ho1) ?_ ?_)
  ·simp only [exact_words.l0, e1, e2, e3]
   rw [if_pos c1, if_pos (Int.natCast_nonneg _), if_pos c3, if_pos (Int.natCast_nonneg _), if_pos c1, if_pos (Int.natCast_nonneg _), ho, Int.toNat_natCast]
  ·rw [vB_set _ _ _ _ hq, hv, high_succ s i (by omega)]
   have e : rd w ((d / 8 : Nat) : Int) + bt s (i : Int) * 256 ^ (d % 8) - rd w ((d / 8 : Nat) : Int) = 256 ^ (d % 8) * bt s (i : Int) := by
    rw [Int.mul_comm (256 ^ (d % 8))]; omega
   rw [e, ← Int.mul_assoc, pow8, hk, Int.pow_succ, Int.add_mul]
   generalize vB 256 ((bytesOf s).take i).reverse = H
   generalize (256 : Int) ^ d = P
   generalize bt s (i : Int) = c
   rw [Int.mul_comm P c, Int.add_comm, Int.mul_assoc 256 H P, Int.mul_comm P 256, ← Int.mul_assoc H 256 P, Int.mul_comm H 256, Int.mul_assoc 256 H P]
  ·intro hd0
   by_cases h0 : d % 8 = 0
   ·have h1 : (d - 1) / 8 = d / 8 - 1 := by omega
    have h2 : 0 < d / 8 := by omega
    rw [h1]
    refine ⟨?_, fun q hq' => ?_⟩
    ·rw [rd_set_ne _ _ _ _ (by omega), hz2 _ (by omega)]
     simp
    ·rw [rd_set_ne _ _ _ _ (by omega), hz2 _ (by omega)]
   ·have h1 : (d - 1) / 8 = d / 8 := by omega
    have h2 : (d - 1) % 8 + 1 = d % 8 := by omega
    rw [h1, h2]
    refine ⟨?_, fun q hq' => ?_⟩
    ·rw [rd_set_self _ _ _ hq]
     exact ho2
    ·rw [rd_set_ne _ _ _ _ (by omega), hz2 _ (by omega)]
theorem words_ev (s : ByteArray) (hs : s.size ≤ 1099511627776) : Ev (fun k => exact_words.f k s) (d64 (bval s).toNat) := by
 have e1 : wrap64 (Int.tdiv (wrap64 ((s.size : Int) + 7)) 8) = (((s.size + 7) / 8 : Nat) : Int) := by
  rw [w64 (x := (s.size : Int) + 7) (by omega) (by omega), Int.tdiv_eq_ediv_of_nonneg (by omega), w64 (by omega) (by omega)]
  omega
 refine Ev.congr (f := fun k => exact_words.l0 k s (List.replicate ((s.size + 7) / 8) 0) (s.size : Int) ((0 : Nat) : Int)) (fun k => ?_) (words_l0 s hs s.size 0 _ (by omega) (by simp) (Dig_replicate (by decide) _) ?_ ?_)
 ·unfold exact_words.f
  rw [e1, if_pos (by omega), Int.toNat_natCast, if_pos (by omega)]
  rfl
 ·rw [vB_replicate]
  simp [vB]
 ·intro _
  exact ⟨by rw [rd_replicate]; simp, fun q _ => rd_replicate _ _⟩
theorem words_nat {n : Nat} (hs : (nat n).size ≤ 1099511627776) : Ev (fun k => exact_words.f k (nat n)) (d64 n) := by
 have := words_ev (nat n) hs
 rwa [bval_nat, Int.toNat_natCast] at this
theorem set_reverse (l : List Int) (p : Nat) (v : Int) (h : p < l.length) : (l.set p v).reverse = l.reverse.set (l.length - 1 - p) v := by
 apply List.ext_getElem?
 intro j
 rcases Nat.lt_or_ge j l.length with hj | hj
 ·rw [List.getElem?_reverse (by rw [List.length_set]; exact hj), List.length_set, List.getElem?_set, List.getElem?_set, List.length_reverse]
  by_cases e : p = l.length - 1 - j
  ·have e' : l.length - 1 - p = j := by omega
   rw [if_pos e, if_pos h, if_pos e', if_pos (by omega)]
  ·have e' : ¬ l.length - 1 - p = j := by omega
   rw [if_neg e, if_neg e', List.getElem?_reverse hj]
 ·rw [List.getElem?_eq_none (by simp; omega), List.getElem?_eq_none (by simp; omega)]
theorem pack_l2 (b : List Int) (hd : Dig 256 b) (hb : b.length < 9223372036854775807) (n : Nat) (hv : vB 256 b.reverse = n) (hn : n ≠ 0) : ∀ (d i : Nat), i + d = b.length → (∀ j : Nat, j < i → rd b (j : Int) = 0) → Ev (fun k => exact_pack.l2 k b (i : Int)) (nat n) := by
 intro d
 induction d with
 | zero =>
  intro i hi hz
  have := vB_zero 256 (l := b.reverse) (fun j hj => by
   rw [List.length_reverse] at hj
   rw [rd_reverse _ _ hj]
   exact hz _ (by omega))
  omega
 | succ d ih =>
  intro i hi hz
  by_cases h0 : rd b (i : Int) = 0
  ·have e1 : wrap64 ((i : Int) + 1) = ((i + 1 : Nat) : Int) := by rw [w64 (by omega) (by omega)]; omega
   refine Ev.step (f := fun k => exact_pack.l2 k b ((i + 1 : Nat) : Int)) (fun k => ?_) (ih (i + 1) (by omega) (fun j hj => ?_))
   ·simp only [exact_pack.l2, e1]
    rw [if_pos (by omega), if_pos (by omega), if_pos h0]
   ·rcases Nat.lt_or_ge j i with h | h
    ·exact hz j h
    ·have : j = i := by omega
     subst this
     exact h0
  ·refine Ev.step (f := fun _ => some (nat n)) (fun k => ?_) (Ev.now _)
   simp only [exact_pack.l2]
   rw [if_pos (by omega), if_pos (by omega), if_neg h0, if_pos (by omega), Int.toNat_natCast]
   congr 1
   unfold nat
   congr 1
   have hu : (b.drop i).reverse = d8 n := by
    refine d8_unique (Dig_reverse (Dig_drop hd _)) (fun hp => ?_) ?_
    ·rw [List.length_reverse] at hp ⊢
     rw [rd_reverse _ _ (by omega), rd_drop]
     have : i + ((b.drop i).length - 1 - ((b.drop i).length - 1)) = i := by omega
     rw [this]
     exact h0
    ·rw [← hv]
     conv => rhs; rw [← List.take_append_drop i b]
     rw [List.reverse_append, vB_append, vB_zero 256 (l := (b.take i).reverse) (fun j hj => ?_)]
     ·simp
     ·rw [List.length_reverse] at hj
      have hl : (b.take i).length = i := by rw [List.length_take]; omega
      rw [rd_reverse _ _ hj, rd_take _ _ _ (by omega)]
      exact hz _ (by omega)
   rw [← hu, List.reverse_reverse]
theorem byte_of (x : Int) (s : Nat) (hs : s < 8) (h0 : 0 ≤ x) (h1 : x < B64) : shr .u64 x ((8 * s : Nat) : Int) % 256 = x / 256 ^ s % 256 := by
 unfold shr
 rw [Int.toNat_natCast]
 have : min (8 * s) IntKind.u64.bits = 8 * s := Nat.min_eq_left (by show 8 * s ≤ 64; omega)
 rw [this, Int.pow_mul]
 rfl
theorem byte_step (x : Int) (s : Nat) (hs : s < 8) (h0 : 0 ≤ x) (h1 : x < B64) : x % 256 ^ (s + 1) = x % 256 ^ s + 256 ^ s * (x / 256 ^ s % 256) := by
 have : s = 0 ∨ s = 1 ∨ s = 2 ∨ s = 3 ∨ s = 4 ∨ s = 5 ∨ s = 6 ∨ s = 7 := by omega
 rcases this with rfl | rfl | rfl | rfl | rfl | rfl | rfl | rfl <;> simp <;> omega
def Packed (w b : List Int) (i s : Nat) : Prop :=
 b.length = 8 * w.length ∧ Dig 256 b ∧ vB 256 b.reverse = vB B64 (w.take i) + B64 ^ i * (rd w (i : Int) % 256 ^ s) ∧ ∀ j : Nat, 8 * i + s ≤ j → rd b.reverse (j : Int) = 0
theorem packed_step {w b : List Int} {i s : Nat} (hw : Dig B64 w) (hi : i < w.length) (hs : s < 8) (h : Packed w b i s) :
  8 * i + s < b.length ∧ Packed w (b.set (b.length - 1 - (8 * i + s)) (rd w (i : Int) / 256 ^ s % 256)) i (s + 1) := by
 obtain ⟨hl, hd, hv, hz⟩ := h
 obtain ⟨hx0, hx1⟩ := Dig_rd hw i hi
 have hlt : 8 * i + s < b.length := by omega
 refine ⟨hlt, by rw [List.length_set]; exact hl, Dig_set hd _ (Int.emod_nonneg _ (by decide)) (Int.emod_lt_of_pos _ (by decide)), ?_, fun j hj => ?_⟩
 ·rw [set_reverse _ _ _ (by omega)]
  have e : b.length - 1 - (b.length - 1 - (8 * i + s)) = 8 * i + s := by omega
  rw [e, vB_set _ _ _ _ (by rw [List.length_reverse]; exact hlt), hz _ (Nat.le_refl _), hv, byte_step _ s hs hx0 hx1, Int.sub_zero, Int.mul_add, ← pow8, Int.mul_assoc, Int.add_assoc]
 ·rw [set_reverse _ _ _ (by omega)]
  have e : b.length - 1 - (b.length - 1 - (8 * i + s)) = 8 * i + s := by omega
  rw [e, rd_set_ne _ _ _ _ (by omega)]
  exact hz j (by omega)
theorem packed_word {w b : List Int} {i : Nat} (hw : Dig B64 w) (hi : i < w.length) (h : Packed w b i 8) : Packed w b (i + 1) 0 := by
 obtain ⟨hl, hd, hv, hz⟩ := h
 obtain ⟨hx0, hx1⟩ := Dig_rd hw i hi
 refine ⟨hl, hd, ?_, fun j hj => hz j (by omega)⟩
 rw [hv, vB_take_succ _ _ _ hi]
 have : rd w (i : Int) % 256 ^ 8 = rd w (i : Int) := Int.emod_eq_of_lt hx0 hx1
 rw [this]
 simp
theorem pack_l1 (w : List Int) (hw : Dig B64 w) (hl : w.length ≤ 1099511627776) (i : Nat) (hi : i < w.length) (r : ByteArray)
  (next : ∀ b, Packed w b (i + 1) 0 → Ev (fun k => exact_pack.l0 k b w (w.length : Int) ((i + 1 : Nat) : Int)) r) : ∀ (d s : Nat) (b : List Int), s + d = 8 → Packed w b i s →
  Ev (fun k => exact_pack.l1 k b (i : Int) (rd w (i : Int)) w (w.length : Int) (i : Int) (s : Int)) r := by
 obtain ⟨hx0, hx1⟩ := Dig_rd hw i hi
 intro d
 induction d with
 | zero =>
  intro s b hs hp
  have hs : s = 8 := by omega
  subst hs
  refine Ev.step (f := fun k => exact_pack.l0 k b w (w.length : Int) ((i + 1 : Nat) : Int)) (fun k => ?_) (next b (packed_word hw hi hp))
  have c1 : ¬ ((8 : Nat) : Int) < 8 := by omega
  have e1 : wrap64 ((i : Int) + 1) = ((i + 1 : Nat) : Int) := by rw [w64 (by omega) (by omega)]; omega
  simp only [exact_pack.l1, e1]
  rw [if_neg c1]
 | succ d ih =>
  intro s b hs hp
  have hlb := hp.1
  obtain ⟨hlt, hp'⟩ := packed_step hw hi (by omega) hp
  refine Ev.step (f := fun k => exact_pack.l1 k (b.set (b.length - 1 - (8 * i + s)) (rd w (i : Int) / 256 ^ s % 256)) (i : Int) (rd w (i : Int)) w (w.length : Int) (i : Int) ((s + 1 : Nat) : Int)) (fun k => ?_) (ih (s + 1) _ (by omega) hp')
  have c1 : ((s : Nat) : Int) < 8 := by omega
  have c2 : ((b.length - 1 - (8 * i + s) : Nat) : Int) < (b.length : Int) := by omega
  have e0 := byte_of _ s (by omega) hx0 hx1
  have e1 : wrap64 (8 * (s : Int)) = ((8 * s : Nat) : Int) := by rw [w64 (by omega) (by omega)]; omega
  have e2 : wrap64 (wrap64 (wrap64 ((b.length : Int) - 1) - ((8 * i : Nat) : Int)) - (s : Int)) = ((b.length - 1 - (8 * i + s) : Nat) : Int) := by
   clear e1 e0
   rw [w64 (x := (b.length : Int) - 1) (by omega) (by omega), w64 (x := (b.length : Int) - 1 - ((8 * i : Nat) : Int)) (by omega) (by omega), w64 (by omega) (by omega)]
   omega
  have e4 : wrap64 (8 * (i : Int)) = ((8 * i : Nat) : Int) := by clear e0 e1 e2; rw [w64 (by omega) (by omega)]; omega
  have e3 : wrap64 ((s : Int) + 1) = ((s + 1 : Nat) : Int) := by clear e0 e1 e2 e4; rw [w64 (by omega) (by omega)]; omega
  simp only [exact_pack.l1, e1, e4, e2, e3]
  rw [if_pos c1, if_pos (Int.natCast_nonneg _), if_pos (Int.natCast_nonneg _), if_pos c2, Int.toNat_natCast, e0]
theorem pack_l0 (w : List Int) (hw : Dig B64 w) (hl : w.length ≤ 1099511627776) (n : Nat) (hv : vB B64 w = n) (hn : n ≠ 0) : ∀ (d i : Nat) (b : List Int), i + d = w.length → Packed w b i 0 → Ev (fun k => exact_pack.l0 k b w (w.length : Int) (i : Int)) (nat n) := by
 intro d
 induction d with
 | zero =>
  intro i b hi hp
  obtain ⟨h1, h2, h3, h4⟩ := hp
  have hi : i = w.length := by omega
  subst hi
  have e : vB 256 b.reverse = n := by
   rw [h3, List.take_of_length_le (Nat.le_refl _), hv]
   simp
  refine Ev.step (f := fun k => exact_pack.l2 k b ((0 : Nat) : Int)) (fun k => ?_) (pack_l2 b h2 (by omega) n e hn b.length 0 (by omega) (fun j hj => absurd hj (by omega)))
  simp only [exact_pack.l0]
  rw [if_neg (by omega)]
  rfl
 | succ d ih =>
  intro i b hi hp
  refine Ev.step (f := fun k => exact_pack.l1 k b (i : Int) (rd w (i : Int)) w (w.length : Int) (i : Int) ((0 : Nat) : Int)) (fun k => ?_) (pack_l1 w hw hl i (by omega) (nat n) (fun b' hp' => ih (i + 1) b' (by omega) hp') 8 0 b (by omega) hp)
  simp only [exact_pack.l0]
  rw [if_pos (by omega), if_pos (by omega), if_pos (by omega)]
  rfl
theorem pack_ev {l : List Int} (hd : Dig B64 l) (hl : l.length ≤ 1099511627776) : Ev (fun k => exact_pack.f k l) (nat (vB B64 l).toNat) := by
 have hv := vB_nonneg (by decide) hd
 have ht : (d64 (vB B64 l).toNat).length ≤ l.length := dgs_len (by
  have := vB_lt (by decide) hd
  have h1 : (((vB B64 l).toNat : Nat) : Int) < ((18446744073709551614 + 2 : Nat) : Int) ^ l.length := by
   rw [Int.toNat_of_nonneg hv]
   exact this
  exact_mod_cast h1)
 refine Ev.congr (f := fun k => (exact_trim.f k l).bind fun t => if (t.length : Int) = 0 then some (⟨#[]⟩ : ByteArray) else if 0 ≤ wrap64 (8 * (t.length : Int)) then (if (wrap64 (8 * (t.length : Int)) : Int).toNat ≤ 281474976710656 then exact_pack.l0 k (List.replicate (wrap64 (8 * (t.length : Int)) : Int).toNat 0) t (t.length : Int) 0 else none) else none) (fun k => rfl) (Ev.bind (trim_ev hd (by omega)) ?_)
 generalize hn : (vB B64 l).toNat = n at *
 by_cases h0 : n = 0
 ·subst h0
  rw [d64_zero, nat_zero]
  exact Ev.now _
 ·have hne : (d64 n).length ≠ 0 := by
   intro h
   have := d64_val n
   rw [List.eq_nil_of_length_eq_zero h] at this
   simp [vB] at this
   omega
  have e1 : wrap64 (8 * ((d64 n).length : Int)) = ((8 * (d64 n).length : Nat) : Int) := by rw [w64 (by omega) (by omega)]; omega
  refine Ev.congr (f := fun k => exact_pack.l0 k (List.replicate (8 * (d64 n).length) 0) (d64 n) ((d64 n).length : Int) ((0 : Nat) : Int)) (fun k => ?_) (pack_l0 (d64 n) (d64_dig n) (by omega) n (d64_val n) h0 (d64 n).length 0 _ (by omega) ⟨by simp, Dig_replicate (by decide) _, ?_, fun j _ => ?_⟩)
  ·rw [e1, if_neg (by omega), if_pos (by omega), Int.toNat_natCast, if_pos (by omega)]
   rfl
  ·rw [List.reverse_replicate, vB_replicate]
   simp [vB]
  ·rw [List.reverse_replicate, rd_replicate]
end Go.Proofs.YtdhdfcjpeflinaaN
set_option linter.unusedVariables false
namespace Go.Proofs.YtdhdfcjpeflinaaN
open Go.RowKit Go.Proofs.Ytdhdfcjpeflinaa.All Go.Proofs.YtdhdfcjpeflinaaW.PrintWords Go.Proofs.YtdhdfcjpeflinaaW.PrintLast Go.Proofs.YtdhdfcjpeflinaaW.PrintMore
theorem mul_range {a b A B : Int} (a0 : 0 ≤ a) (a1 : a ≤ A) (b0 : 0 ≤ b) (b1 : b ≤ B) : 0 ≤ a * b ∧ a * b ≤ A * B :=
 ⟨Int.mul_nonneg a0 b0, Int.le_trans (Int.mul_le_mul_of_nonneg_left b1 a0) (Int.mul_le_mul_of_nonneg_right a1 (by omega))⟩
theorem and_low {x : Int} (h0 : 0 ≤ x) (h1 : x < B64) : Go.bits .and .u64 x 4294967295 = x % 4294967296 :=
 bits_mask .u64 64 (by decide) wraps_u64 32 (by decide) x h0 (by simpa using h1)
theorem mul64_eq {x y : Int} (x0 : 0 ≤ x) (x1 : x < B64) (y0 : 0 ≤ y) (y1 : y < B64) : bits_Mul64.f x y = some (x * y / B64, x * y % B64) := by
 have x1' : x < 18446744073709551616 := x1
 have y1' : y < 18446744073709551616 := y1
 show bits_Mul64.f x y = some (x * y / 18446744073709551616, x * y % 18446744073709551616)
 obtain ⟨a, ha⟩ : ∃ a, a = x / 4294967296 := ⟨_, rfl⟩
 obtain ⟨b, hb⟩ : ∃ b, b = x % 4294967296 := ⟨_, rfl⟩
 obtain ⟨c, hc⟩ : ∃ c, c = y / 4294967296 := ⟨_, rfl⟩
 obtain ⟨d, hd⟩ : ∃ d, d = y % 4294967296 := ⟨_, rfl⟩
 have hx : x = a * 4294967296 + b := by omega
 have hy : y = c * 4294967296 + d := by omega
 have a0 : 0 ≤ a ∧ a ≤ 4294967295 := by omega
 have b0 : 0 ≤ b ∧ b ≤ 4294967295 := by omega
 have c0 : 0 ≤ c ∧ c ≤ 4294967295 := by omega
 have d0 : 0 ≤ d ∧ d ≤ 4294967295 := by omega
 have hac := mul_range a0.1 a0.2 c0.1 c0.2
 have had := mul_range a0.1 a0.2 d0.1 d0.2
 have hbc := mul_range b0.1 b0.2 c0.1 c0.2
 have hbd := mul_range b0.1 b0.2 d0.1 d0.2
 have hp : x * y = a * c * 18446744073709551616 + (a * d + b * c) * 4294967296 + b * d := by
  rw [hx, hy, Int.add_mul, Int.mul_add, Int.mul_add, Int.add_mul]
  have e1 : a * 4294967296 * (c * 4294967296) = a * c * 18446744073709551616 := by
   rw [Int.mul_assoc, Int.mul_left_comm 4294967296 c, Int.mul_assoc a c]
   congr 1
  have e2 : a * 4294967296 * d = a * d * 4294967296 := by rw [Int.mul_assoc, Int.mul_comm 4294967296 d, ← Int.mul_assoc]
  have e3 : b * (c * 4294967296) = b * c * 4294967296 := by rw [Int.mul_assoc]
  rw [e1, e2, e3]
  omega
 unfold bits_Mul64.f
 rw [and_low x0 x1, and_low y0 y1, ← ha, ← hb, ← hc, ← hd, hp]
 generalize hA : a * c = p at *
 generalize hD : a * d = q at *
 generalize hC : b * c = r at *
 generalize hE : b * d = s at *
 clear hA hD hC hE hp hx hy ha hb hc hd x0 x1 y0 y1 x1' y1'
 have h1 : (4294967295 : Int) * 4294967295 = 18446744065119617025 := rfl
 rw [h1] at *
 rw [u64 (x := s) (by omega) (by omega), u64 (x := q) (by omega) (by omega), u64 (x := q + s / 4294967296) (by omega) (by omega), and_low (x := q + s / 4294967296) (by omega) (by show _ < (18446744073709551616 : Int); omega),
  u64 (x := r) (by omega) (by omega), u64 (x := (q + s / 4294967296) % 4294967296 + r) (by omega) (by omega), u64 (x := p) (by omega) (by omega),
  u64 (x := p + (q + s / 4294967296) / 4294967296) (by omega) (by omega)]
 have e : p + (q + s / 4294967296) / 4294967296 + ((q + s / 4294967296) % 4294967296 + r) / 4294967296 = (p * 18446744073709551616 + (q + r) * 4294967296 + s) / 18446744073709551616 := by omega
 rw [e, u64 (x := (p * 18446744073709551616 + (q + r) * 4294967296 + s) / 18446744073709551616) (by clear e; omega) (by clear e; omega), u64_mod]
theorem add64_eq {x y c : Int} (x0 : 0 ≤ x) (y0 : 0 ≤ y) (c0 : 0 ≤ c) (c1 : c ≤ 1) : bits_Add64.f x y c = some ((x + y + c) % B64, (x + y + c) / B64) := by
 unfold bits_Add64.f
 rw [if_pos ⟨x0, y0, c0, c1⟩]
theorem sub64_eq {x y c : Int} (x0 : 0 ≤ x) (x1 : x < B64) (y0 : 0 ≤ y) (y1 : y < B64) (c0 : 0 ≤ c) (c1 : c ≤ 1) : ∃ d e, bits_Sub64.f x y c = some (d, e) ∧ 0 ≤ d ∧ d < B64 ∧ 0 ≤ e ∧ e ≤ 1 ∧ d = x - y - c + B64 * e := by
 have x1' : x < 18446744073709551616 := x1
 have y1' : y < 18446744073709551616 := y1
 unfold bits_Sub64.f
 rw [if_pos ⟨x0, y0, by omega, c0, c1⟩]
 refine ⟨_, _, rfl, Int.emod_nonneg _ (by decide), Int.emod_lt_of_pos _ (by decide), ?_, ?_, ?_⟩
 ·split <;> decide
 ·split <;> decide
 ·show (x - y - c) % 18446744073709551616 = x - y - c + 18446744073709551616 * _
  split <;> omega
theorem mul_add {x y o c : Int} (x0 : 0 ≤ x) (x1 : x < B64) (y0 : 0 ≤ y) (y1 : y < B64) (o0 : 0 ≤ o) (o1 : o < B64) (c0 : 0 ≤ c) (c1 : c < B64) :
  IntKind.u64.wrap (IntKind.u64.wrap (x * y / B64 + (x * y % B64 + o + 0) / B64) + ((x * y % B64 + o + 0) % B64 + c + 0) / B64) = (x * y + o + c) / B64 ∧ ((x * y % B64 + o + 0) % B64 + c + 0) % B64 = (x * y + o + c) % B64 ∧ 0 ≤ (x * y + o + c) / B64 ∧ (x * y + o + c) / B64 < B64 := by
 have x1' : x < 18446744073709551616 := x1
 have y1' : y < 18446744073709551616 := y1
 have o1' : o < 18446744073709551616 := o1
 have c1' : c < 18446744073709551616 := c1
 have hp := mul_range x0 (show x ≤ 18446744073709551615 by omega) y0 (show y ≤ 18446744073709551615 by omega)
 have h1 : (18446744073709551615 : Int) * 18446744073709551615 = 340282366920938463426481119284349108225 := rfl
 rw [h1] at hp
 show IntKind.u64.wrap (IntKind.u64.wrap (x * y / 18446744073709551616 + (x * y % 18446744073709551616 + o + 0) / 18446744073709551616) + ((x * y % 18446744073709551616 + o + 0) % 18446744073709551616 + c + 0) / 18446744073709551616) = (x * y + o + c) / 18446744073709551616 ∧ ((x * y % 18446744073709551616 + o + 0) % 18446744073709551616 + c + 0) % 18446744073709551616 = (x * y + o + c) % 18446744073709551616 ∧ 0 ≤ (x * y + o + c) / 18446744073709551616 ∧ (x * y + o + c) / 18446744073709551616 < 18446744073709551616
 generalize x * y = p at *
 clear x0 x1 x1' y0 y1 y1' o1 c1 h1
 have a1 : 0 ≤ p / 18446744073709551616 + (p % 18446744073709551616 + o + 0) / 18446744073709551616 ∧ p / 18446744073709551616 + (p % 18446744073709551616 + o + 0) / 18446744073709551616 < 18446744073709551616 := by omega
 rw [u64 a1.1 a1.2]
 have a2 : p / 18446744073709551616 + (p % 18446744073709551616 + o + 0) / 18446744073709551616 + ((p % 18446744073709551616 + o + 0) % 18446744073709551616 + c + 0) / 18446744073709551616 = (p + o + c) / 18446744073709551616 := by omega
 have a3 : 0 ≤ (p + o + c) / 18446744073709551616 ∧ (p + o + c) / 18446744073709551616 < 18446744073709551616 := by omega
 rw [a2, u64 a3.1 a3.2]
 refine ⟨rfl, by omega, a3.1, a3.2⟩
theorem take_succ (B : Int) (l : List Int) (i : Nat) : vB B (l.take (i + 1)) = vB B (l.take i) + B ^ i * rd l (i : Int) := by
 rcases Nat.lt_or_ge i l.length with h | h
 ·exact vB_take_succ B l i h
 ·rw [List.take_of_length_le (by omega), List.take_of_length_le h, rd_nat, List.getD_eq_getElem?_getD, List.getElem?_eq_none h]
  simp
theorem rd_far (l : List Int) (i : Nat) (h : l.length ≤ i) : rd l (i : Int) = 0 := by
 rw [rd_nat, List.getD_eq_getElem?_getD, List.getElem?_eq_none h]
 rfl
theorem vB_all (B : Int) (l : List Int) (i : Nat) (h : l.length ≤ i) : vB B (l.take i) = vB B l := by rw [List.take_of_length_le h]
def MulOut (a b out : List Int) (i : Nat) : Prop :=
 out.length = a.length + b.length ∧ Dig B64 out ∧ vB B64 out = vB B64 (a.take i) * vB B64 b ∧ ∀ j : Nat, i + b.length ≤ j → rd out (j : Int) = 0
def MulIn (a b out : List Int) (i j : Nat) (c : Int) : Prop :=
 out.length = a.length + b.length ∧ Dig B64 out ∧ (0 ≤ c ∧ c < B64) ∧ vB B64 out + B64 ^ (i + j) * c = vB B64 (a.take i) * vB B64 b + B64 ^ i * (rd a (i : Int) * vB B64 (b.take j)) ∧ ∀ n : Nat, i + b.length ≤ n → rd out (n : Int) = 0
theorem mul_in {a b out : List Int} {i j : Nat} {c : Int} (ha : Dig B64 a) (hb : Dig B64 b) (hi : i < a.length) (hj : j < b.length) (h : MulIn a b out i j c) :
  MulIn a b (out.set (i + j) ((rd a (i : Int) * rd b (j : Int) + rd out ((i + j : Nat) : Int) + c) % B64)) i (j + 1) ((rd a (i : Int) * rd b (j : Int) + rd out ((i + j : Nat) : Int) + c) / B64) := by
 obtain ⟨hl, hd, hc, hv, hz⟩ := h
 obtain ⟨x0, x1⟩ := Dig_rd ha i hi
 obtain ⟨y0, y1⟩ := Dig_rd hb j hj
 obtain ⟨o0, o1⟩ := Dig_rd hd (i + j) (by omega)
 obtain ⟨-, -, n0, n1⟩ := mul_add x0 x1 y0 y1 o0 o1 hc.1 hc.2
 refine ⟨by rw [List.length_set]; exact hl, Dig_set hd _ (Int.emod_nonneg _ (by decide)) (Int.emod_lt_of_pos _ (by decide)), ⟨n0, n1⟩, ?_, fun n hn => ?_⟩
 ·rw [vB_set _ _ _ _ (by omega), take_succ, ← Nat.add_assoc, Int.pow_succ]
  have e := Int.emod_add_mul_ediv (rd a (i : Int) * rd b (j : Int) + rd out ((i + j : Nat) : Int) + c) B64
  generalize (rd a (i : Int) * rd b (j : Int) + rd out ((i + j : Nat) : Int) + c) / B64 = q at *
  generalize (rd a (i : Int) * rd b (j : Int) + rd out ((i + j : Nat) : Int) + c) % B64 = r at *
  have er : r = rd a (i : Int) * rd b (j : Int) + rd out ((i + j : Nat) : Int) + c - B64 * q := by omega
  rw [er]
  have ep : (B64 : Int) ^ (i + j) = B64 ^ i * B64 ^ j := Int.pow_add _ _ _
  rw [ep] at hv ⊢
  clear ep
  generalize vB B64 out = V at *
  generalize vB B64 (List.take i a) * vB B64 b = W at *
  generalize vB B64 (List.take j b) = U at *
  generalize (B64 : Int) ^ i = P at *
  generalize (B64 : Int) ^ j = Q at *
  generalize rd a (i : Int) = x at *
  generalize rd b (j : Int) = y at *
  generalize rd out ((i + j : Nat) : Int) = o at *
  have e1 : P * Q * (x * y + o + c - B64 * q - o) = P * Q * (x * y) + P * Q * c - P * Q * B64 * q := by
   rw [show x * y + o + c - B64 * q - o = x * y + c - B64 * q by omega, Int.mul_sub, Int.mul_add, Int.mul_assoc (P * Q) B64 q]
  have e2 : P * (x * (U + Q * y)) = P * (x * U) + P * Q * (x * y) := by
   rw [Int.mul_add x, Int.mul_add P, Int.mul_left_comm x Q y, Int.mul_assoc P Q]
  rw [e1, e2]
  omega
 ·rw [rd_set_ne _ _ _ _ (by omega)]
  exact hz n hn
theorem mulWords_l1 (a b : List Int) (ha : Dig B64 a) (hb : Dig B64 b) (la : a.length ≤ 1099511627776) (lb : b.length ≤ 1099511627776) (i : Nat) (hi : i < a.length) (r : List Int)
  (next : ∀ out, MulOut a b out (i + 1) → Ev (fun k => exact_mulWords.l0 k b out a (a.length : Int) ((i + 1 : Nat) : Int)) r) : ∀ (d j : Nat) (out : List Int) (c : Int), j + d = b.length → MulIn a b out i j c →
  Ev (fun k => exact_mulWords.l1 k b out (i : Int) (rd a (i : Int)) c a (a.length : Int) (i : Int) b (b.length : Int) (j : Int)) r := by
 intro d
 induction d with
 | zero =>
  intro j out c hj h
  have hj : j = b.length := by omega
  subst hj
  have hl := h.1
  have c1 : i + b.length < out.length := by omega
  have c2 : ((i + b.length : Nat) : Int) < (out.length : Int) := Int.ofNat_lt.2 c1
  have e1 : wrap64 ((i : Int) + (b.length : Int)) = ((i + b.length : Nat) : Int) := by rw [w64 (by omega) (by omega)]; omega
  have e2 : wrap64 ((i : Int) + 1) = ((i + 1 : Nat) : Int) := by clear e1; rw [w64 (by omega) (by omega)]; omega
  obtain ⟨-, hd, hc, hv, hz⟩ := h
  refine Ev.step (f := fun k => exact_mulWords.l0 k b (out.set (i + b.length) c) a (a.length : Int) ((i + 1 : Nat) : Int)) (fun k => ?_) (next _ ⟨by rw [List.length_set]; exact hl, Dig_set hd _ hc.1 hc.2, ?_, fun j hj => ?_⟩)
  ·simp only [exact_mulWords.l1, e1, e2]
   rw [if_neg (Int.lt_irrefl _), if_pos (Int.natCast_nonneg _), if_pos c2, Int.toNat_natCast]
  ·rw [vB_set _ _ _ _ c1, hz _ (Nat.le_refl _), Int.sub_zero, hv, take_succ, vB_all _ _ _ (Nat.le_refl _), Int.add_mul, Int.mul_assoc]
  ·rw [rd_set_ne _ _ _ _ (by clear hv e1 e2; omega)]
   exact hz j (by clear hv e1 e2; omega)
 | succ d ih =>
  intro j out c hj h
  have hj' : j < b.length := by omega
  have hn := mul_in ha hb hi hj' h
  have hl := h.1
  have c1 : i + j < out.length := by omega
  have c2 : ((i + j : Nat) : Int) < (out.length : Int) := Int.ofNat_lt.2 c1
  have c3 : (j : Int) < (b.length : Int) := Int.ofNat_lt.2 hj'
  have c4 : j + 1 + d = b.length := by omega
  have e1 : wrap64 ((i : Int) + (j : Int)) = ((i + j : Nat) : Int) := by rw [w64 (by omega) (by omega)]; omega
  have e2 : wrap64 ((j : Int) + 1) = ((j + 1 : Nat) : Int) := by clear e1; rw [w64 (by omega) (by omega)]; omega
  obtain ⟨-, hd, hc, -, -⟩ := h
  obtain ⟨x0, x1⟩ := Dig_rd ha i hi
  obtain ⟨y0, y1⟩ := Dig_rd hb j hj'
  obtain ⟨o0, o1⟩ := Dig_rd hd (i + j) c1
  obtain ⟨m0, m1, -, -⟩ := mul_add x0 x1 y0 y1 o0 o1 hc.1 hc.2
  have a1 := mul64_eq x0 x1 y0 y1
  have a2 := add64_eq (Int.emod_nonneg (rd a (i : Int) * rd b (j : Int)) (show (B64 : Int) ≠ 0 by decide)) o0 (Int.le_refl 0) (by decide)
  have a3 := add64_eq (Int.emod_nonneg (rd a (i : Int) * rd b (j : Int) % B64 + rd out ((i + j : Nat) : Int) + 0) (show (B64 : Int) ≠ 0 by decide)) hc.1 (Int.le_refl 0) (by decide)
  refine Ev.step (f := fun k => exact_mulWords.l1 k b (out.set (i + j) ((rd a (i : Int) * rd b (j : Int) + rd out ((i + j : Nat) : Int) + c) % B64)) (i : Int) (rd a (i : Int)) ((rd a (i : Int) * rd b (j : Int) + rd out ((i + j : Nat) : Int) + c) / B64) a (a.length : Int) (i : Int) b (b.length : Int) ((j + 1 : Nat) : Int)) (fun k => ?_) (ih (j + 1) _ _ c4 hn)
  simp only [exact_mulWords.l1, e1, e2]
  rw [if_pos c3, if_pos (Int.natCast_nonneg _), if_pos c3, a1, Option.bind_some, if_pos (Int.natCast_nonneg _), if_pos c2, a2, Option.bind_some, a3, Option.bind_some, m0, m1, Int.toNat_natCast]
theorem mulWords_l0 (a b : List Int) (ha : Dig B64 a) (hb : Dig B64 b) (la : a.length ≤ 1099511627776) (lb : b.length ≤ 1099511627776) : ∀ (d i : Nat) (out : List Int), i + d = a.length → MulOut a b out i →
  Ev (fun k => exact_mulWords.l0 k b out a (a.length : Int) (i : Int)) (d64 (vB B64 a * vB B64 b).toNat) := by
 intro d
 induction d with
 | zero =>
  intro i out hi h
  have hi : i = a.length := by omega
  subst hi
  obtain ⟨hl, hd, hv, hz⟩ := h
  rw [vB_all _ _ _ (Nat.le_refl _)] at hv
  refine Ev.step (f := fun k => (exact_trim.f k out).bind fun t => some t) (fun k => ?_) (Ev.bind (trim_ev hd (by omega)) ?_)
  ·simp only [exact_mulWords.l0]
   rw [if_neg (Int.lt_irrefl _)]
  ·rw [hv]
   exact Ev.now _
 | succ d ih =>
  intro i out hi h
  have hi' : i < a.length := by omega
  have c1 : (i : Int) < (a.length : Int) := Int.ofNat_lt.2 hi'
  obtain ⟨hl, hd, hv, hz⟩ := h
  refine Ev.step (f := fun k => exact_mulWords.l1 k b out (i : Int) (rd a (i : Int)) 0 a (a.length : Int) (i : Int) b (b.length : Int) ((0 : Nat) : Int)) (fun k => ?_) (mulWords_l1 a b ha hb la lb i hi' _ (fun out' h' => ih (i + 1) out' (by omega) h') b.length 0 out 0 (by omega) ⟨hl, hd, ⟨by decide, by decide⟩, ?_, hz⟩)
  ·simp only [exact_mulWords.l0]
   rw [if_pos c1, if_pos (Int.natCast_nonneg _), if_pos c1]
   rfl
  ·rw [hv]
   simp [vB]
theorem mulWords_ev {a b : List Int} (ha : Dig B64 a) (hb : Dig B64 b) (la : a.length ≤ 1099511627776) (lb : b.length ≤ 1099511627776) : Ev (fun k => exact_mulWords.f k a b) (d64 (vB B64 a * vB B64 b).toNat) := by
 have e1 : wrap64 ((a.length : Int) + (b.length : Int)) = ((a.length + b.length : Nat) : Int) := by rw [w64 (by omega) (by omega)]; omega
 refine Ev.congr (f := fun k => exact_mulWords.l0 k b (List.replicate (a.length + b.length) 0) a (a.length : Int) ((0 : Nat) : Int)) (fun k => ?_) (mulWords_l0 a b ha hb la lb a.length 0 _ (by omega) ⟨by simp, Dig_replicate (by decide) _, ?_, fun j _ => rd_replicate _ _⟩)
 ·unfold exact_mulWords.f
  rw [e1, if_pos (Int.natCast_nonneg _), Int.toNat_natCast, if_pos (by omega)]
  rfl
 ·rw [vB_replicate]
  simp [vB]
theorem mulWords_d64 {m n : Nat} (lm : (d64 m).length ≤ 1099511627776) (ln : (d64 n).length ≤ 1099511627776) : Ev (fun k => exact_mulWords.f k (d64 m) (d64 n)) (d64 (m * n)) := by
 have := mulWords_ev (d64_dig m) (d64_dig n) lm ln
 rw [d64_val, d64_val] at this
 rwa [show ((m : Int) * (n : Int)).toNat = m * n by rw [← Int.natCast_mul, Int.toNat_natCast]] at this
end Go.Proofs.YtdhdfcjpeflinaaN
set_option linter.unusedVariables false
namespace Go.Proofs.YtdhdfcjpeflinaaN
open Go.RowKit Go.Proofs.Ytdhdfcjpeflinaa.All Go.Proofs.YtdhdfcjpeflinaaW.PrintWords Go.Proofs.YtdhdfcjpeflinaaW.PrintLast Go.Proofs.YtdhdfcjpeflinaaW.PrintMore
theorem size_mono {m n : Nat} (h : m ≤ n) : (nat m).size ≤ (nat n).size := nat_size_le.2 (Nat.lt_of_le_of_lt h (nat_lt_size n))
theorem size_mul {m n : Nat} : (nat (m * n)).size ≤ (nat m).size + (nat n).size := by
 apply nat_size_le.2
 rw [Nat.pow_add]
 have h1 := nat_lt_size m
 have h2 := nat_lt_size n
 exact Nat.lt_of_le_of_lt (Nat.mul_le_mul_right _ (Nat.le_of_lt h1)) (Nat.mul_lt_mul_of_pos_left h2 (Nat.lt_of_le_of_lt (Nat.zero_le _) h1))
theorem words_len (n : Nat) : (d64 n).length ≤ ((nat n).size + 7) / 8 := by
 apply dgs_len
 have h1 := nat_lt_size n
 have h2 : 256 ^ (nat n).size ≤ 256 ^ (8 * (((nat n).size + 7) / 8)) := Nat.pow_le_pow_right (by decide) (by omega)
 rw [Nat.pow_mul] at h2
 exact Nat.lt_of_lt_of_le h1 h2
def AddOut (x y out : List Int) (i : Nat) (c : Int) : Prop :=
 out.length = x.length + 1 ∧ Dig B64 out ∧ (0 ≤ c ∧ c ≤ 1) ∧ vB B64 out + B64 ^ i * c = vB B64 (x.take i) + vB B64 (y.take i) ∧ ∀ n : Nat, i ≤ n → rd out (n : Int) = 0
theorem add_range {x y c : Int} (x0 : 0 ≤ x) (x1 : x < B64) (y0 : 0 ≤ y) (y1 : y < B64) (c0 : 0 ≤ c) (c1 : c ≤ 1) : 0 ≤ (x + y + c) / B64 ∧ (x + y + c) / B64 ≤ 1 := by
 have x1' : x < 18446744073709551616 := x1
 have y1' : y < 18446744073709551616 := y1
 show 0 ≤ (x + y + c) / 18446744073709551616 ∧ (x + y + c) / 18446744073709551616 ≤ 1
 omega
theorem add_out {x y out : List Int} {i : Nat} {c : Int} (hx : Dig B64 x) (hy : Dig B64 y) (hi : i < x.length) (h : AddOut x y out i c) :
  AddOut x y (out.set i ((rd x (i : Int) + rd y (i : Int) + c) % B64)) (i + 1) ((rd x (i : Int) + rd y (i : Int) + c) / B64) := by
 obtain ⟨hl, hd, hc, hv, hz⟩ := h
 obtain ⟨x0, x1⟩ := Dig_rd hx i hi
 obtain ⟨y0, y1⟩ := Dig_rd0 (by decide) hy i
 refine ⟨by rw [List.length_set]; exact hl, Dig_set hd _ (Int.emod_nonneg _ (by decide)) (Int.emod_lt_of_pos _ (by decide)), add_range x0 x1 y0 y1 hc.1 hc.2, ?_, fun n hn => ?_⟩
 ·rw [vB_set _ _ _ _ (by clear hv; omega), hz _ (Nat.le_refl _), Int.sub_zero, take_succ, take_succ, Int.pow_succ]
  have e := Int.emod_add_mul_ediv (rd x (i : Int) + rd y (i : Int) + c) B64
  generalize (rd x (i : Int) + rd y (i : Int) + c) / B64 = q at *
  generalize (rd x (i : Int) + rd y (i : Int) + c) % B64 = r at *
  have er : r = rd x (i : Int) + rd y (i : Int) + c - B64 * q := by clear hv; omega
  rw [er, Int.mul_sub, Int.mul_add, Int.mul_add, Int.mul_assoc (B64 ^ i) B64 q]
  generalize (B64 : Int) ^ i = P at *
  omega
 ·rw [rd_set_ne _ _ _ _ (by clear hv; omega)]
  exact hz n (by clear hv; omega)
theorem NatAdd_l0 (x y : List Int) (hx : Dig B64 x) (hy : Dig B64 y) (lx : x.length ≤ 1099511627775) (hyx : y.length ≤ x.length) (n : Nat) (hn : vB B64 x + vB B64 y = n) : ∀ (d i : Nat) (out : List Int) (c : Int), i + d = x.length → AddOut x y out i c →
  Ev (fun k => exact_NatAdd.l0 k x y out c (x.length : Int) (i : Int)) (nat n) := by
 intro d
 induction d with
 | zero =>
  intro i out c hi h
  have hi : i = x.length := by omega
  subst hi
  have hl := h.1
  have c1 : (x.length : Int) < (out.length : Int) := by omega
  have c2 : x.length < out.length := by omega
  have c3 : out.length ≤ 1099511627776 := by omega
  obtain ⟨-, hd, hc, hv, hz⟩ := h
  have hd' : Dig B64 (out.set x.length c) := Dig_set hd _ hc.1 (by have := hc.2; exact Int.lt_of_le_of_lt this (by decide))
  have hv' : vB B64 (out.set x.length c) = n := by
   rw [vB_set _ _ _ _ c2, hz _ (Nat.le_refl _), Int.sub_zero, hv, vB_all _ _ _ (Nat.le_refl _), vB_all _ _ _ hyx, hn]
  have := pack_ev hd' (by rw [List.length_set]; exact c3)
  rw [hv', Int.toNat_natCast] at this
  refine Ev.step (f := fun k => (exact_pack.f k (out.set x.length c)).bind fun t => some t) (fun k => ?_) (Ev.bind this (Ev.now _))
  simp only [exact_NatAdd.l0]
  rw [if_neg (Int.lt_irrefl _), if_pos (Int.natCast_nonneg _), if_pos c1, Int.toNat_natCast]
 | succ d ih =>
  intro i out c hi h
  have hi' : i < x.length := by omega
  have c0 : i + 1 + d = x.length := by omega
  have c1 : (i : Int) < (x.length : Int) := Int.ofNat_lt.2 hi'
  have hl := h.1
  have c2 : (i : Int) < (out.length : Int) := by omega
  have c3 : ¬ (i : Int) < (y.length : Int) → rd y (i : Int) = 0 := fun h => rd_far y i (by omega)
  have e1 : wrap64 ((i : Int) + 1) = ((i + 1 : Nat) : Int) := by clear c3; rw [w64 (by omega) (by omega)]; omega
  have hn' := add_out hx hy hi' h
  obtain ⟨-, hd, hc, -, -⟩ := h
  obtain ⟨x0, x1⟩ := Dig_rd hx i hi'
  obtain ⟨y0, y1⟩ := Dig_rd0 (by decide) hy i
  have ea := add64_eq x0 y0 hc.1 hc.2
  refine Ev.step (f := fun k => exact_NatAdd.l0 k x y (out.set i ((rd x (i : Int) + rd y (i : Int) + c) % B64)) ((rd x (i : Int) + rd y (i : Int) + c) / B64) (x.length : Int) ((i + 1 : Nat) : Int)) (fun k => ?_) (ih (i + 1) _ _ c0 hn')
  simp only [exact_NatAdd.l0, e1]
  rw [if_pos c1]
  by_cases hy' : (i : Int) < (y.length : Int)
  ·rw [if_pos hy', if_pos (Int.natCast_nonneg _), if_pos c1, ea, Option.bind_some, if_pos c2, Int.toNat_natCast]
  ·rw [c3 hy'] at ea
   rw [if_neg hy', if_pos (Int.natCast_nonneg _), if_pos c1, ea, Option.bind_some, if_pos c2, Int.toNat_natCast, c3 hy']
theorem NatAdd_j0 {m n : Nat} (hm : (d64 m).length ≤ 1099511627775) (h : (d64 n).length ≤ (d64 m).length) : Ev (fun k => exact_NatAdd.j0 k (d64 m) (d64 n)) (nat (m + n)) := by
 have e1 : wrap64 (((d64 m).length : Int) + 1) = (((d64 m).length + 1 : Nat) : Int) := by rw [w64 (by omega) (by omega)]; omega
 refine Ev.step (f := fun k => exact_NatAdd.l0 k (d64 m) (d64 n) (List.replicate ((d64 m).length + 1) 0) 0 ((d64 m).length : Int) ((0 : Nat) : Int)) (fun k => ?_) (NatAdd_l0 (d64 m) (d64 n) (d64_dig m) (d64_dig n) hm h (m + n) (by rw [d64_val, d64_val, Int.natCast_add]) (d64 m).length 0 _ _ (Nat.zero_add _) ⟨by simp, Dig_replicate (by decide) _, ⟨by decide, by decide⟩, ?_, fun j _ => rd_replicate _ _⟩)
 ·simp only [exact_NatAdd.j0, e1]
  rw [if_pos (Int.natCast_nonneg _), Int.toNat_natCast, if_pos (by omega)]
  rfl
 ·rw [vB_replicate]
  simp [vB]
theorem NatAdd_ev {m n : Nat} (hm : (nat m).size ≤ 1099511627776) (hn : (nat n).size ≤ 1099511627776) : Ev (fun k => exact_NatAdd.f k (nat m) (nat n)) (nat (m + n)) := by
 have lm := words_len m
 have ln := words_len n
 refine Ev.bind (f := fun k t318 => (exact_words.f k (nat n)).bind fun t321 => (if (t318.length : Int) < (t321.length : Int) then (exact_NatAdd.j0 k t321 t318) else (exact_NatAdd.j0 k t318 t321))) (words_nat hm) (Ev.bind (words_nat hn) ?_)
 by_cases h : ((d64 m).length : Int) < ((d64 n).length : Int)
 ·refine Ev.congr (f := fun k => exact_NatAdd.j0 k (d64 n) (d64 m)) (fun k => if_pos h) ?_
  rw [Nat.add_comm m n]
  exact NatAdd_j0 (by omega) (by omega)
 ·refine Ev.congr (f := fun k => exact_NatAdd.j0 k (d64 m) (d64 n)) (fun k => if_neg h) ?_
  exact NatAdd_j0 (by omega) (by omega)
theorem d64_len_mono {m n : Nat} (h : m ≤ n) : (d64 m).length ≤ (d64 n).length := dgs_len (Nat.lt_of_le_of_lt h (dgs_lt 18446744073709551614 n))
theorem NatMul_ev {m n : Nat} (hm : (nat m).size ≤ 1099511627776) (hn : (nat n).size ≤ 1099511627776) : Ev (fun k => exact_NatMul.f k (nat m) (nat n)) (nat (m * n)) := by
 have lm := words_len m
 have ln := words_len n
 have hl : (d64 (m * n)).length ≤ 1099511627776 := by
  have h1 := words_len (m * n)
  have h2 := size_mul (m := m) (n := n)
  omega
 refine Ev.bind (f := fun k t422 => (exact_words.f k (nat n)).bind fun t425 => ((exact_mulWords.f k t422 t425).bind fun t428 => ((exact_pack.f k t428).bind fun t431 => (some t431)))) (words_nat hm) (Ev.bind (f := fun k t425 => ((exact_mulWords.f k (d64 m) t425).bind fun t428 => ((exact_pack.f k t428).bind fun t431 => (some t431)))) (words_nat hn) (Ev.bind (f := fun k t428 => ((exact_pack.f k t428).bind fun t431 => (some t431))) (mulWords_d64 (by omega) (by omega)) ?_))
 have := pack_ev (d64_dig (m * n)) hl
 rw [d64_val, Int.toNat_natCast] at this
 exact Ev.bind this (Ev.now _)
def cmpN (m n : Nat) : Int := if m < n then -1 else if m = n then 0 else 1
def chk (s : ByteArray) : Int := if 0 < s.size ∧ bt s 0 = 0 then 1 else if 1024 < s.size then 4 else 0
theorem Check_ev (s : ByteArray) : Ev (fun k => natural_Check.f k s) (chk s) := by
 have hj : ∀ b : Bool, (b = true ↔ 0 < s.size ∧ bt s 0 = 0) → Ev (fun k => natural_Check.j0 k s b) (chk s) := by
  intro b hb
  refine Ev.step (f := fun _ => some (chk s)) (fun k => ?_) (Ev.now _)
  unfold chk
  simp only [natural_Check.j0]
  by_cases h : b = true
  ·rw [if_pos h, if_pos (hb.1 h)]
  ·rw [if_neg h, if_neg (fun h' => h (hb.2 h'))]
   by_cases h3 : 1024 < s.size
   ·rw [if_pos (by omega), if_pos h3]
   ·rw [if_neg (by omega), if_neg h3]
 by_cases h : 0 < s.size
 ·refine Ev.congr (f := fun k => natural_Check.j0 k s (bt s 0 == 0)) (fun k => ?_) (hj _ (by simp [h]))
  unfold natural_Check.f
  rw [if_pos (by omega), if_pos (by omega)]
 ·refine Ev.congr (f := fun k => natural_Check.j0 k s false) (fun k => ?_) (hj _ (by simp [h]))
  unfold natural_Check.f
  rw [if_neg (by omega)]
theorem chk_nat {n : Nat} (h : (nat n).size ≤ 1024) : chk (nat n) = 0 := by
 unfold chk
 rw [if_neg, if_neg (by omega)]
 rintro ⟨h1, h2⟩
 rcases nat_wf n with h3 | h3
 ·omega
 ·exact h3 h2
theorem chk_zero {s : ByteArray} (h : chk s = 0) : s = nat (bval s).toNat ∧ s.size ≤ 1024 := by
 unfold chk at h
 by_cases h1 : 0 < s.size ∧ bt s 0 = 0
 ·rw [if_pos h1] at h; omega
 ·rw [if_neg h1] at h
  refine ⟨wf_nat ?_, ?_⟩
  ·rcases Nat.eq_zero_or_pos s.size with h2 | h2
   ·exact Or.inl h2
   ·exact Or.inr (fun h3 => h1 ⟨h2, h3⟩)
  ·rcases Nat.lt_or_ge 1024 s.size with h2 | h2
   ·rw [if_pos h2] at h; omega
   ·exact h2
def firstErr : List ByteArray → Int
 | [] => 0
 | s :: l => if chk s = 0 then firstErr l else chk s
theorem first_l0 (l : List ByteArray) (hl : l.length < 9223372036854775808) : ∀ (d i : Nat), i + d = l.length → Ev (fun k => natural_first.l0 k l (l.length : Int) (i : Int)) (firstErr (l.drop i)) := by
 intro d
 induction d with
 | zero =>
  intro i hi
  rw [List.drop_of_length_le (by omega)]
  refine Ev.step (f := fun _ => some 0) (fun k => ?_) (Ev.now _)
  simp only [natural_first.l0]
  rw [if_neg (by omega)]
 | succ d ih =>
  intro i hi
  have hi' : i < l.length := by omega
  have e1 : wrap64 ((i : Int) + 1) = ((i + 1 : Nat) : Int) := by rw [w64 (by omega) (by omega)]; omega
  have e2 : rdOf ByteArray.empty l (i : Int) = l[i] := by
   unfold rdOf
   rw [Int.toNat_natCast, List.getD_eq_getElem?_getD, List.getElem?_eq_getElem hi']
   rfl
  rw [List.drop_eq_getElem_cons hi', firstErr]
  refine Ev.step (f := fun k => (natural_Check.f k l[i]).bind fun t => if t = 0 then natural_first.l0 k l (l.length : Int) ((i + 1 : Nat) : Int) else some t) (fun k => ?_) (Ev.bind (Check_ev _) ?_)
  ·simp only [natural_first.l0, e1, e2]
   rw [if_pos (by omega), if_pos (by omega), if_pos (by omega)]
  ·by_cases h : chk l[i] = 0
   ·rw [if_pos h]
    exact Ev.congr (fun k => if_pos h) (ih (i + 1) (by omega))
   ·rw [if_neg h]
    exact Ev.congr (f := fun _ => some (chk l[i])) (fun k => if_neg h) (Ev.now _)
theorem first_ev (l : List ByteArray) (hl : l.length < 9223372036854775808) : Ev (fun k => natural_first.f k l) (firstErr l) := first_l0 l hl l.length 0 (by omega)
theorem first1 (a : ByteArray) : Ev (fun k => natural_first.f k [a]) (chk a) := by
 have := first_ev [a] (by simp)
 rwa [show firstErr [a] = chk a by unfold firstErr firstErr; split <;> simp_all] at this
def bnd (n : Nat) : ByteArray × Int := if 1024 < (nat n).size then (⟨#[]⟩, 4) else (nat n, 0)
theorem bounded_eq (n : Nat) : natural_bounded.f (nat n) = some (bnd n) := by
 unfold natural_bounded.f bnd
 by_cases h : 1024 < (nat n).size
 ·rw [if_pos (by omega), if_pos h]
 ·rw [if_neg (by omega), if_neg h]
theorem bnd_ok {n : Nat} (h : (nat n).size ≤ 1024) : bnd n = (nat n, 0) := by
 unfold bnd
 rw [if_neg (by omega)]
end Go.Proofs.YtdhdfcjpeflinaaN
set_option linter.unusedVariables false
namespace Go.Proofs.YtdhdfcjpeflinaaN
open Go.RowKit Go.Proofs.Ytdhdfcjpeflinaa.All Go.Proofs.YtdhdfcjpeflinaaW.PrintWords Go.Proofs.YtdhdfcjpeflinaaW.PrintLast Go.Proofs.YtdhdfcjpeflinaaW.PrintMore
theorem ev_some {α β : Type} {o : Option α} {f : Nat → α → Option β} {a : α} {r : β} (h : o = some a) (k : Ev (fun n => f n a) r) : Ev (fun n => o.bind (f n)) r := by subst h; exact k
theorem number {s : ByteArray} (h : chk s = 0) : ∃ n, s = nat n ∧ (nat n).size ≤ 1024 := by
 obtain ⟨h1, h2⟩ := chk_zero h
 exact ⟨_, h1, by rw [← h1]; exact h2⟩
end Go.Proofs.YtdhdfcjpeflinaaN
set_option linter.unusedVariables false
namespace Go.Proofs.YtdhdfcjpeflinaaN
open Go.RowKit Go.Proofs.Ytdhdfcjpeflinaa.All Go.Proofs.YtdhdfcjpeflinaaW.PrintWords Go.Proofs.YtdhdfcjpeflinaaW.PrintLast Go.Proofs.YtdhdfcjpeflinaaW.PrintMore
theorem shl_eq (x : Int) (s : Nat) (hs : s ≤ 64) : shl .u64 x (s : Int) = (x * 2 ^ s) % 18446744073709551616 := by
 unfold shl
 rw [Int.toNat_natCast, u64_mod, show min s IntKind.u64.bits = s from Nat.min_eq_left hs]
theorem shr_eq (x : Int) (s : Nat) (hs : s ≤ 64) : shr .u64 x (s : Int) = x / 2 ^ s := by
 unfold shr
 rw [Int.toNat_natCast, show min s IntKind.u64.bits = s from Nat.min_eq_left hs]
theorem norm_word {y : Int} (y0 : 0 < y) (y1 : y < B64) : ∃ s : Nat, s ≤ 63 ∧ bits_LeadingZeros64.f y = some (s : Int) ∧ 9223372036854775808 ≤ y * 2 ^ s ∧ y * 2 ^ s < 18446744073709551616 := by
 have y1' : y < 18446744073709551616 := y1
 obtain ⟨n, rfl⟩ := Int.eq_ofNat_of_zero_le (Int.le_of_lt y0)
 have hn : n < 2 ^ 64 := by omega
 obtain ⟨h1, h2, h3⟩ := Lib.bitLenAux_bounds 64 n hn (by omega)
 have h4 : Lib.bitLen n ≤ 64 := Lib.bitLen_le n 64 (by decide) hn
 have e : Lib.bitLenAux 64 n = Lib.bitLen n := rfl
 rw [e] at h1 h2 h3
 generalize hL : Lib.bitLen n = L at *
 refine ⟨64 - L, by omega, ?_, ?_, ?_⟩
 ·unfold bits_LeadingZeros64.f bits_Len64.f
  rw [if_pos (by omega), Option.bind_some, Int.toNat_natCast, hL, w64 (by omega) (by omega)]
  congr 1
  omega
 ·have h5 : 2 ^ (L - 1) * 2 ^ (64 - L) = 2 ^ 63 := by rw [← Nat.pow_add]; congr 1; omega
  have h6 := Nat.mul_le_mul_right (2 ^ (64 - L)) h2
  rw [h5] at h6
  have e1 : (n : Int) * 2 ^ (64 - L) = ((n * 2 ^ (64 - L) : Nat) : Int) := by rw [Int.natCast_mul, Int.natCast_pow]; rfl
  rw [e1]
  generalize n * 2 ^ (64 - L) = M at *
  omega
 ·have h5 : 2 ^ L * 2 ^ (64 - L) = 2 ^ 64 := by rw [← Nat.pow_add]; congr 1; omega
  have h6 := Nat.mul_lt_mul_of_pos_right h3 (Nat.two_pow_pos (64 - L))
  rw [h5] at h6
  have e1 : (n : Int) * 2 ^ (64 - L) = ((n * 2 ^ (64 - L) : Nat) : Int) := by rw [Int.natCast_mul, Int.natCast_pow]; rfl
  rw [e1]
  generalize n * 2 ^ (64 - L) = M at *
  omega
def Half (y1 U Q q r : Int) : Prop := Q ≤ q ∧ q * y1 + r = U ∧ 0 ≤ r ∧ r < 4294967296 ∧ q ≤ 4294967297
theorem half_le {y1 y0 U u q r : Int} (hy : 0 < y1 * 4294967296 + y0) (he : q * y1 + r = U) (h : q * y0 ≤ 4294967296 * r + u) : q ≤ (U * 4294967296 + u) / (y1 * 4294967296 + y0) := by
 apply Int.le_ediv_of_mul_le hy
 have : q * (y1 * 4294967296 + y0) = q * y1 * 4294967296 + q * y0 := by rw [Int.mul_add, Int.mul_assoc]
 omega
theorem half_gt {y1 y0 U u q r : Int} (hy : 0 < y1 * 4294967296 + y0) (he : q * y1 + r = U) (h : 4294967296 * r + u < q * y0) : (U * 4294967296 + u) / (y1 * 4294967296 + y0) ≤ q - 1 := by
 have : (U * 4294967296 + u) / (y1 * 4294967296 + y0) < q := by
  apply Int.ediv_lt_of_lt_mul hy
  have : q * (y1 * 4294967296 + y0) = q * y1 * 4294967296 + q * y0 := by rw [Int.mul_add, Int.mul_assoc]
  omega
 omega
theorem half_lt {y1 y0 U u : Int} (hy : 0 < y1 * 4294967296 + y0) (hU : U < y1 * 4294967296 + y0) (u1 : u < 4294967296) : (U * 4294967296 + u) / (y1 * 4294967296 + y0) < 4294967296 := by
 apply Int.ediv_lt_of_lt_mul hy
 omega
theorem half_start {y1 y0 U u : Int} (h1 : 2147483648 ≤ y1) (h2 : y1 < 4294967296) (h3 : 0 ≤ y0) (h4 : y0 < 4294967296) (U0 : 0 ≤ U) (hU : U < y1 * 4294967296 + y0) (u0 : 0 ≤ u) (u1 : u < 4294967296) :
  Half y1 U ((U * 4294967296 + u) / (y1 * 4294967296 + y0)) (U / y1) (U % y1) ∧ 0 ≤ U / y1 := by
 have hy : 0 < y1 * 4294967296 + y0 := by omega
 have hQ0 : 0 ≤ (U * 4294967296 + u) / (y1 * 4294967296 + y0) := Int.ediv_nonneg (by omega) (by omega)
 have hq0 : 0 ≤ U / y1 := Int.ediv_nonneg U0 (by omega)
 have e := Int.emod_add_mul_ediv U y1
 have hr := Int.emod_lt_of_pos U (show 0 < y1 by omega)
 have hr0 := Int.emod_nonneg U (show y1 ≠ 0 by omega)
 refine ⟨⟨?_, by rw [Int.mul_comm]; omega, hr0, by omega, ?_⟩, hq0⟩
 ·apply Int.le_ediv_of_mul_le (by omega)
  have h5 := Int.ediv_mul_le (U * 4294967296 + u) (show y1 * 4294967296 + y0 ≠ 0 by omega)
  generalize (U * 4294967296 + u) / (y1 * 4294967296 + y0) = Q at *
  rw [Int.mul_add, ← Int.mul_assoc] at h5
  have h6 := Int.mul_nonneg hQ0 h3
  omega
 ·have : U / y1 < 4294967298 := by
   apply Int.ediv_lt_of_lt_mul (by omega)
   omega
  omega
theorem half_step {y1 y0 U u q r : Int} (h1 : 2147483648 ≤ y1) (h2 : y1 < 4294967296) (h3 : 0 ≤ y0) (h4 : y0 < 4294967296) (hU : U < y1 * 4294967296 + y0) (u0 : 0 ≤ u) (u1 : u < 4294967296)
  (h : Half y1 U ((U * 4294967296 + u) / (y1 * 4294967296 + y0)) q r) (ht : 4294967296 ≤ q ∨ 4294967296 * r + u < q * y0) :
  (4294967296 ≤ r + y1 → q - 1 = (U * 4294967296 + u) / (y1 * 4294967296 + y0)) ∧ (r + y1 < 4294967296 → Half y1 U ((U * 4294967296 + u) / (y1 * 4294967296 + y0)) (q - 1) (r + y1)) := by
 obtain ⟨a1, a2, a3, a4, a5⟩ := h
 have hy : 0 < y1 * 4294967296 + y0 := by omega
 have b1 : (U * 4294967296 + u) / (y1 * 4294967296 + y0) ≤ q - 1 := by
  rcases ht with ht | ht
  ·have := half_lt hy hU u1
   omega
  ·exact half_gt hy a2 ht
 have b2 : (q - 1) * y1 + (r + y1) = U := by rw [Int.sub_mul, Int.one_mul]; omega
 refine ⟨fun h5 => ?_, fun h5 => ⟨b1, b2, by omega, h5, by omega⟩⟩
 have h6 : (q - 1) * y0 ≤ 4294967296 * 4294967295 := by
  refine Int.le_trans (Int.mul_le_mul_of_nonneg_right (show q - 1 ≤ 4294967296 by omega) h3) ?_
  omega
 have b3 := half_le (u := u) hy b2 (by omega)
 omega
theorem half_done {y1 y0 U u q r : Int} (hy : 0 < y1 * 4294967296 + y0) (h : Half y1 U ((U * 4294967296 + u) / (y1 * 4294967296 + y0)) q r) (ht : ¬ 4294967296 * r + u < q * y0) : q = (U * 4294967296 + u) / (y1 * 4294967296 + y0) := by
 obtain ⟨a1, a2, a3, a4, a5⟩ := h
 have := half_le (u := u) hy a2 (by omega)
 omega
theorem half_test {q y0 r u : Int} (q0 : 0 ≤ q) (q1 : q < 4294967296) (h3 : 0 ≤ y0) (h4 : y0 < 4294967296) (r0 : 0 ≤ r) (r1 : r < 4294967296) (u0 : 0 ≤ u) (u1 : u < 4294967296) :
  IntKind.u64.wrap (q * y0) = q * y0 ∧ IntKind.u64.wrap (IntKind.u64.wrap (4294967296 * r) + u) = 4294967296 * r + u := by
 have h := mul_range q0 (show q ≤ 4294967295 by omega) h3 (show y0 ≤ 4294967295 by omega)
 rw [u64 (x := 4294967296 * r) (by omega) (by omega)]
 exact ⟨u64 h.1 (by omega), u64 (by omega) (by omega)⟩
theorem div_l1 {y s y1 y0 : Int} (h1 : 2147483648 ≤ y1) (h2 : y1 < 4294967296) (h3 : 0 ≤ y0) (h4 : y0 < 4294967296) (s0 : 0 ≤ s) {U u Q1 : Int} (U0 : 0 ≤ U) (hU : U < y1 * 4294967296 + y0) (u0 : 0 ≤ u) (u1 : u < 4294967296) : ∀ (d : Nat) (q r : Int), q = (U * 4294967296 + u) / (y1 * 4294967296 + y0) + d → Half y1 U ((U * 4294967296 + u) / (y1 * 4294967296 + y0)) q r →
  Ev (fun k => bits_Div64.l1 k y s y1 y0 u Q1 r U q) (IntKind.u64.wrap ((IntKind.u64.wrap (Q1 * 4294967296)) + ((U * 4294967296 + u) / (y1 * 4294967296 + y0))), shr .u64 (IntKind.u64.wrap ((IntKind.u64.wrap ((IntKind.u64.wrap (U * 4294967296)) + u)) - (IntKind.u64.wrap (((U * 4294967296 + u) / (y1 * 4294967296 + y0)) * y)))) s) := by
 have hy : 0 < y1 * 4294967296 + y0 := by omega
 have hQ0 : 0 ≤ (U * 4294967296 + u) / (y1 * 4294967296 + y0) := Int.ediv_nonneg (by omega) (by omega)
 intro d
 induction d with
 | zero =>
  intro q r hq h
  have hq : q = (U * 4294967296 + u) / (y1 * 4294967296 + y0) := by omega
  have hq1 := half_lt hy hU u1
  rw [← hq] at hq1
  have ht : ¬ 4294967296 * r + u < q * y0 := by
   intro ht
   have := half_gt (u := u) hy h.2.1 ht
   omega
  obtain ⟨e1, e2⟩ := half_test (show 0 ≤ q by omega) hq1 h3 h4 h.2.2.1 h.2.2.2.1 u0 u1
  have c1 : ¬ q ≥ 4294967296 := by omega
  rw [← hq]
  refine Ev.step (f := fun k => bits_Div64.j4 k y s y1 y0 u Q1 r U q false) (fun k => ?_) (Ev.step (f := fun _ => some _) (fun k => ?_) (Ev.now _))
  ·simp only [bits_Div64.l1]
   rw [if_neg c1, e1, e2, decide_eq_false ht]
  ·simp only [bits_Div64.j4]
   rw [if_neg Bool.false_ne_true, if_pos s0]
 | succ d ih =>
  intro q r hq h
  have ht : 4294967296 ≤ q ∨ 4294967296 * r + u < q * y0 := by
   by_cases ht : 4294967296 * r + u < q * y0
   ·exact Or.inr ht
   ·have := half_done hy h ht
    omega
  obtain ⟨g1, g2⟩ := half_step h1 h2 h3 h4 hU u0 u1 h ht
  have r0 := h.2.2.1
  have r1 := h.2.2.2.1
  have q1 := h.2.2.2.2
  have w1 : IntKind.u64.wrap (q - 1) = q - 1 := u64 (by omega) (by omega)
  have w2 : IntKind.u64.wrap (r + y1) = r + y1 := u64 (by omega) (by omega)
  refine Ev.step (f := fun k => bits_Div64.j4 k y s y1 y0 u Q1 r U q true) (fun k => ?_) ?_
  ·simp only [bits_Div64.l1]
   by_cases c1 : q ≥ 4294967296
   ·rw [if_pos c1]
   ·rw [if_neg c1]
    have ht' : 4294967296 * r + u < q * y0 := by
     rcases ht with ht | ht
     ·exact absurd ht c1
     ·exact ht
    obtain ⟨e1, e2⟩ := half_test (show 0 ≤ q by omega) (by omega) h3 h4 r0 r1 u0 u1
    rw [e1, e2, decide_eq_true ht']
  ·by_cases c2 : r + y1 ≥ 4294967296
   ·refine Ev.step (f := fun _ => some _) (fun k => ?_) (Ev.now _)
    simp only [bits_Div64.j4]
    rw [if_pos trivial, w1, w2, if_pos c2, if_pos s0, g1 c2]
   ·refine Ev.step (f := fun k => bits_Div64.l1 k y s y1 y0 u Q1 (r + y1) U (q - 1)) (fun k => ?_) (ih (q - 1) (r + y1) (by omega) (g2 (by omega)))
    simp only [bits_Div64.j4]
    rw [if_pos trivial, w1, w2, if_neg c2]
theorem div_l0 {y s y1 y0 : Int} (h1 : 2147483648 ≤ y1) (h2 : y1 < 4294967296) (h3 : 0 ≤ y0) (h4 : y0 < 4294967296) {U u v : Int} (U0 : 0 ≤ U) (hU : U < y1 * 4294967296 + y0) (u0 : 0 ≤ u) (u1 : u < 4294967296) {R : Int × Int}
  (next : Ev (fun k => bits_Div64.j2 k y s y1 y0 U u v ((U * 4294967296 + u) / (y1 * 4294967296 + y0))) R) : ∀ (d : Nat) (q r : Int), q = (U * 4294967296 + u) / (y1 * 4294967296 + y0) + d → Half y1 U ((U * 4294967296 + u) / (y1 * 4294967296 + y0)) q r →
  Ev (fun k => bits_Div64.l0 k y s y1 y0 U u v q r) R := by
 have hy : 0 < y1 * 4294967296 + y0 := by omega
 have hQ0 : 0 ≤ (U * 4294967296 + u) / (y1 * 4294967296 + y0) := Int.ediv_nonneg (by omega) (by omega)
 intro d
 induction d with
 | zero =>
  intro q r hq h
  have hq : q = (U * 4294967296 + u) / (y1 * 4294967296 + y0) := by omega
  have hq1 := half_lt hy hU u1
  rw [← hq] at hq1
  have ht : ¬ 4294967296 * r + u < q * y0 := by
   intro ht
   have := half_gt (u := u) hy h.2.1 ht
   omega
  obtain ⟨e1, e2⟩ := half_test (show 0 ≤ q by omega) hq1 h3 h4 h.2.2.1 h.2.2.2.1 u0 u1
  have c1 : ¬ q ≥ 4294967296 := by omega
  rw [← hq] at next
  refine Ev.step (f := fun k => bits_Div64.j1 k y s y1 y0 U u v q r false) (fun k => ?_) (Ev.step (f := fun k => bits_Div64.j2 k y s y1 y0 U u v q) (fun k => ?_) next)
  ·simp only [bits_Div64.l0]
   rw [if_neg c1, e1, e2, decide_eq_false ht]
  ·simp only [bits_Div64.j1]
   rw [if_neg Bool.false_ne_true]
 | succ d ih =>
  intro q r hq h
  have ht : 4294967296 ≤ q ∨ 4294967296 * r + u < q * y0 := by
   by_cases ht : 4294967296 * r + u < q * y0
   ·exact Or.inr ht
   ·have := half_done hy h ht
    omega
  obtain ⟨g1, g2⟩ := half_step h1 h2 h3 h4 hU u0 u1 h ht
  have r0 := h.2.2.1
  have r1 := h.2.2.2.1
  have q1 := h.2.2.2.2
  have w1 : IntKind.u64.wrap (q - 1) = q - 1 := u64 (by omega) (by omega)
  have w2 : IntKind.u64.wrap (r + y1) = r + y1 := u64 (by omega) (by omega)
  refine Ev.step (f := fun k => bits_Div64.j1 k y s y1 y0 U u v q r true) (fun k => ?_) ?_
  ·simp only [bits_Div64.l0]
   by_cases c1 : q ≥ 4294967296
   ·rw [if_pos c1]
   ·rw [if_neg c1]
    have ht' : 4294967296 * r + u < q * y0 := by
     rcases ht with ht | ht
     ·exact absurd ht c1
     ·exact ht
    obtain ⟨e1, e2⟩ := half_test (show 0 ≤ q by omega) (by omega) h3 h4 r0 r1 u0 u1
    rw [e1, e2, decide_eq_true ht']
  ·by_cases c2 : r + y1 ≥ 4294967296
   ·rw [← g1 c2] at next
    refine Ev.step (f := fun k => bits_Div64.j2 k y s y1 y0 U u v (q - 1)) (fun k => ?_) next
    simp only [bits_Div64.j1]
    rw [if_pos trivial, w1, w2, if_pos c2]
   ·refine Ev.step (f := fun k => bits_Div64.l0 k y s y1 y0 U u v (q - 1) (r + y1)) (fun k => ?_) (ih (q - 1) (r + y1) (by omega) (g2 (by omega)))
    simp only [bits_Div64.j1]
    rw [if_pos trivial, w1, w2, if_neg c2]
theorem div64_ev {h l y : Int} (h0 : 0 ≤ h) (hy : h < y) (y1 : y < B64) (l0 : 0 ≤ l) (l1 : l < B64) : Ev (fun k => bits_Div64.f k h l y) ((h * B64 + l) / y, (h * B64 + l) % y) := by
 have y1' : y < 18446744073709551616 := y1
 have l1' : l < 18446744073709551616 := l1
 show Ev (fun k => bits_Div64.f k h l y) ((h * 18446744073709551616 + l) / y, (h * 18446744073709551616 + l) % y)
 have yp : 0 < y := by omega
 by_cases hz : h = 0
 ·subst hz
  have hq : l / y < 18446744073709551616 := Int.ediv_lt_of_lt_mul yp (by
   have := Int.mul_le_mul_of_nonneg_left (show 1 ≤ y by omega) (show (0 : Int) ≤ 18446744073709551616 by decide)
   omega)
  refine Ev.congr (f := fun _ => some (l / y, l % y)) (fun k => ?_) (by rw [Int.zero_mul, Int.zero_add]; exact Ev.now _)
  unfold bits_Div64.f
  rw [if_neg (by omega), if_neg (by omega), if_pos rfl, Int.tdiv_eq_ediv_of_nonneg l0, Int.tmod_eq_emod_of_nonneg l0, u64 (Int.ediv_nonneg l0 (by omega)) hq]
 ·obtain ⟨s, s1, hs, n0, n1⟩ := norm_word yp y1
  have hPR : (2 : Int) ^ s * 2 ^ (64 - s) = 18446744073709551616 := by
   rw [← Int.pow_add]
   have : s + (64 - s) = 64 := by omega
   rw [this]
   rfl
  have hP : (0 : Int) < 2 ^ s := Int.pow_pos (by decide)
  have hR : (0 : Int) < 2 ^ (64 - s) := Int.pow_pos (by decide)
  have e1 : IntKind.u64.wrap (s : Int) = (s : Int) := u64 (by omega) (by omega)
  have e2 : IntKind.u64.wrap (64 - (s : Int)) = ((64 - s : Nat) : Int) := by rw [u64 (by omega) (by omega)]; omega
  have d1 : shl .u64 y (s : Int) = y * 2 ^ s := by rw [shl_eq _ _ (by omega), Int.emod_eq_of_lt (by omega) n1]
  have h2 : 0 ≤ h * 2 ^ s := Int.mul_nonneg h0 (Int.le_of_lt hP)
  have h3 : h * 2 ^ s + 2 ^ s ≤ y * 2 ^ s := by
   have := Int.mul_le_mul_of_nonneg_right (show h + 1 ≤ y by omega) (Int.le_of_lt hP)
   rwa [Int.add_mul, Int.one_mul] at this
  have hl0 : 0 ≤ l / 2 ^ (64 - s) := Int.ediv_nonneg l0 (Int.le_of_lt hR)
  have hl1 : l / 2 ^ (64 - s) < 2 ^ s := Int.ediv_lt_of_lt_mul hR (by rw [hPR]; exact l1')
  have d2 : Go.bits .or .u64 (shl .u64 h (s : Int)) (shr .u64 l ((64 - s : Nat) : Int)) = h * 2 ^ s + l / 2 ^ (64 - s) := by
   rw [shl_eq _ _ (by omega), shr_eq _ _ (by omega), Int.emod_eq_of_lt h2 (by omega)]
   exact bits_join .u64 64 (by decide) wraps_u64 s (h * 2 ^ s) (l / 2 ^ (64 - s)) h2 (Int.mul_emod_left _ _) (by show _ < (18446744073709551616 : Int); omega) hl0 hl1 (by show _ < (18446744073709551616 : Int); omega)
  have d3 : shl .u64 l (s : Int) = (l * 2 ^ s) % 18446744073709551616 := shl_eq _ _ (by omega)
  have hm : l * 2 ^ s = l / 2 ^ (64 - s) * 18446744073709551616 + (l * 2 ^ s) % 18446744073709551616 := by
   have g := Int.emod_add_mul_ediv l (2 ^ (64 - s))
   have g0 := Int.emod_nonneg l (show (2 : Int) ^ (64 - s) ≠ 0 by omega)
   have g1 := Int.emod_lt_of_pos l hR
   have g2 : l * 2 ^ s = l % 2 ^ (64 - s) * 2 ^ s + 18446744073709551616 * (l / 2 ^ (64 - s)) := by
    conv => lhs; rw [← g]
    rw [Int.add_mul, Int.mul_right_comm, Int.mul_comm (2 ^ (64 - s)) (2 ^ s), hPR]
   have g3 : 0 ≤ l % 2 ^ (64 - s) * 2 ^ s := Int.mul_nonneg g0 (Int.le_of_lt hP)
   have g4 : l % 2 ^ (64 - s) * 2 ^ s < 18446744073709551616 := by
    have := Int.mul_lt_mul_of_pos_right g1 hP
    rwa [Int.mul_comm (2 ^ (64 - s)) (2 ^ s), hPR] at this
   omega
  obtain ⟨U, hU⟩ : ∃ U, U = h * 2 ^ s + l / 2 ^ (64 - s) := ⟨_, rfl⟩
  obtain ⟨L, hL⟩ : ∃ L, L = (l * 2 ^ s) % 18446744073709551616 := ⟨_, rfl⟩
  obtain ⟨Y, hY⟩ : ∃ Y, Y = y * 2 ^ s := ⟨_, rfl⟩
  have L0 : 0 ≤ L := by rw [hL]; exact Int.emod_nonneg _ (by decide)
  have L1 : L < 18446744073709551616 := by rw [hL]; exact Int.emod_lt_of_pos _ (by decide)
  have U0 : 0 ≤ U := by omega
  have U1 : U < Y := by omega
  have key : (h * 18446744073709551616 + l) * 2 ^ s = U * 18446744073709551616 + L := by
   rw [Int.add_mul, Int.mul_right_comm, hU, hL]
   rw [hm] at *
   omega
  rw [← hU] at d2
  rw [← hL] at d3
  rw [← hY] at d1
  rw [← hY] at n0 n1
  have hPle : (2 : Int) ^ s ≤ 2 ^ s := Int.le_refl _
  clear hm h3 hl0 hl1 h2 hPR hR
  have hYd := Int.emod_add_mul_ediv Y 4294967296
  have a1 : 2147483648 ≤ Y / 4294967296 := by omega
  have a2 : Y / 4294967296 < 4294967296 := by omega
  have a3 : 0 ≤ Y % 4294967296 := by omega
  have a4 : Y % 4294967296 < 4294967296 := by omega
  have aY : Y / 4294967296 * 4294967296 + Y % 4294967296 = Y := by omega
  have b1 : 0 ≤ L / 4294967296 := by omega
  have b2 : L / 4294967296 < 4294967296 := by omega
  have b3 : 0 ≤ L % 4294967296 := by omega
  have b4 : L % 4294967296 < 4294967296 := by omega
  have c1 := and_low (x := Y) (by omega) n1
  have c2 := and_low (x := L) L0 L1
  obtain ⟨f1, f2⟩ := half_start a1 a2 a3 a4 U0 (by rw [aY]; exact U1) b1 b2
  have q1 : U / (Y / 4294967296) < 18446744073709551616 := by have := f1.2.2.2.2; omega
  have w1 : IntKind.u64.wrap (Int.tdiv U (Y / 4294967296)) = U / (Y / 4294967296) := by rw [Int.tdiv_eq_ediv_of_nonneg U0, u64 f2 q1]
  have m1 := mul_range f2 (show U / (Y / 4294967296) ≤ 4294967297 from f1.2.2.2.2) (show 0 ≤ Y / 4294967296 by omega) (show Y / 4294967296 ≤ 4294967295 by omega)
  have r1 : U - U / (Y / 4294967296) * (Y / 4294967296) = U % (Y / 4294967296) := by have := f1.2.1; omega
  have w2 : IntKind.u64.wrap (U / (Y / 4294967296) * (Y / 4294967296)) = U / (Y / 4294967296) * (Y / 4294967296) := u64 m1.1 (by omega)
  have w3 : IntKind.u64.wrap (U % (Y / 4294967296)) = U % (Y / 4294967296) := u64 f1.2.2.1 (by have := f1.2.2.2.1; omega)
  refine Ev.congr (f := fun k => bits_Div64.l0 k Y (s : Int) (Y / 4294967296) (Y % 4294967296) U (L / 4294967296) (L % 4294967296) (U / (Y / 4294967296)) (U % (Y / 4294967296))) (fun k => ?_) ?_
  ·unfold bits_Div64.f
   rw [if_neg (by omega), if_neg (by omega), if_neg hz, hs, Option.bind_some, e1, if_pos (by omega), e2, if_pos (by omega), d1, d2, d3, c1, c2, if_neg (by omega), w1, w2, r1, w3]
  ·obtain ⟨d, hd⟩ : ∃ d : Nat, U / (Y / 4294967296) = (U * 4294967296 + L / 4294967296) / (Y / 4294967296 * 4294967296 + Y % 4294967296) + d := ⟨(U / (Y / 4294967296) - (U * 4294967296 + L / 4294967296) / (Y / 4294967296 * 4294967296 + Y % 4294967296)).toNat, by have := f1.1; omega⟩
   refine div_l0 a1 a2 a3 a4 U0 (by rw [aY]; exact U1) b1 b2 ?_ d _ _ hd f1
   clear d hd f1 f2 q1 w1 m1 r1 w2 w3
   rw [aY]
   obtain ⟨Q, hQ⟩ : ∃ Q, Q = (U * 4294967296 + L / 4294967296) / Y := ⟨_, rfl⟩
   obtain ⟨V, hV⟩ : ∃ V, V = (U * 4294967296 + L / 4294967296) % Y := ⟨_, rfl⟩
   have gQ := Int.emod_add_mul_ediv (U * 4294967296 + L / 4294967296) Y
   have V0 : 0 ≤ V := by rw [hV]; exact Int.emod_nonneg _ (by omega)
   have V1 : V < Y := by rw [hV]; exact Int.emod_lt_of_pos _ (by omega)
   have Q0 : 0 ≤ Q := by rw [hQ]; exact Int.ediv_nonneg (by omega) (by omega)
   have Q1 : Q < 4294967296 := by
    have := half_lt (y1 := Y / 4294967296) (y0 := Y % 4294967296) (U := U) (u := L / 4294967296) (by omega) (by omega) b2
    rwa [aY, ← hQ] at this
   rw [← hQ, ← hV] at gQ
   rw [← hQ]
   have w4 : IntKind.u64.wrap (IntKind.u64.wrap (IntKind.u64.wrap (U * 4294967296) + L / 4294967296) - IntKind.u64.wrap (Q * Y)) = V := by
    rw [Int.mul_comm Y Q] at gQ
    generalize Q * Y = QY at *
    rw [u64_mod, u64_mod, u64_mod, u64_mod]
    omega
   obtain ⟨f1, f2⟩ := half_start a1 a2 a3 a4 V0 (by rw [aY]; exact V1) b3 b4
   have q1 : V / (Y / 4294967296) < 18446744073709551616 := by have := f1.2.2.2.2; omega
   have w1 : IntKind.u64.wrap (Int.tdiv V (Y / 4294967296)) = V / (Y / 4294967296) := by rw [Int.tdiv_eq_ediv_of_nonneg V0, u64 f2 q1]
   have m1 := mul_range f2 (show V / (Y / 4294967296) ≤ 4294967297 from f1.2.2.2.2) (show 0 ≤ Y / 4294967296 by omega) (show Y / 4294967296 ≤ 4294967295 by omega)
   have r1 : V - V / (Y / 4294967296) * (Y / 4294967296) = V % (Y / 4294967296) := by have := f1.2.1; omega
   have w2 : IntKind.u64.wrap (V / (Y / 4294967296) * (Y / 4294967296)) = V / (Y / 4294967296) * (Y / 4294967296) := u64 m1.1 (by omega)
   have w3 : IntKind.u64.wrap (V % (Y / 4294967296)) = V % (Y / 4294967296) := u64 f1.2.2.1 (by have := f1.2.2.2.1; omega)
   refine Ev.step (f := fun k => bits_Div64.l1 k Y (s : Int) (Y / 4294967296) (Y % 4294967296) (L % 4294967296) Q (V % (Y / 4294967296)) V (V / (Y / 4294967296))) (fun k => ?_) ?_
   ·simp only [bits_Div64.j2]
    rw [if_neg (by omega), w4, w1, w2, r1, w3]
   ·obtain ⟨d, hd⟩ : ∃ d : Nat, V / (Y / 4294967296) = (V * 4294967296 + L % 4294967296) / (Y / 4294967296 * 4294967296 + Y % 4294967296) + d := ⟨(V / (Y / 4294967296) - (V * 4294967296 + L % 4294967296) / (Y / 4294967296 * 4294967296 + Y % 4294967296)).toNat, by have := f1.1; omega⟩
    have fin := div_l1 (y := Y) (s := (s : Int)) a1 a2 a3 a4 (by omega) V0 (by rw [aY]; exact V1) b3 b4 (Q1 := Q) d _ _ hd f1
    rw [aY] at fin
    clear d hd f1 f2 q1 w1 m1 r1 w2 w3 w4
    obtain ⟨q, hq⟩ : ∃ q, q = (V * 4294967296 + L % 4294967296) / Y := ⟨_, rfl⟩
    obtain ⟨v, hv⟩ : ∃ v, v = (V * 4294967296 + L % 4294967296) % Y := ⟨_, rfl⟩
    have gq := Int.emod_add_mul_ediv (V * 4294967296 + L % 4294967296) Y
    have v0 : 0 ≤ v := by rw [hv]; exact Int.emod_nonneg _ (by omega)
    have v1 : v < Y := by rw [hv]; exact Int.emod_lt_of_pos _ (by omega)
    have q0 : 0 ≤ q := by rw [hq]; exact Int.ediv_nonneg (by omega) (by omega)
    have q1 : q < 4294967296 := by
     have := half_lt (y1 := Y / 4294967296) (y0 := Y % 4294967296) (U := V) (u := L % 4294967296) (by omega) (by omega) b4
     rwa [aY, ← hq] at this
    rw [← hq, ← hv] at gq
    rw [← hq] at fin
    have w5 : IntKind.u64.wrap (IntKind.u64.wrap (IntKind.u64.wrap (V * 4294967296) + L % 4294967296) - IntKind.u64.wrap (q * Y)) = v := by
     rw [Int.mul_comm Y q] at gq
     generalize q * Y = QY at *
     rw [u64_mod, u64_mod, u64_mod, u64_mod]
     omega
    have w6 : IntKind.u64.wrap (IntKind.u64.wrap (Q * 4294967296) + q) = Q * 4294967296 + q := by
     rw [u64 (x := Q * 4294967296) (by omega) (by omega), u64 (by omega) (by omega)]
    rw [w5, w6, shr_eq _ _ (by omega)] at fin
    have hN : (h * 18446744073709551616 + l) * 2 ^ s = (Q * 4294967296 + q) * Y + v := by
     rw [key, Int.add_mul, Int.mul_right_comm Q]
     rw [Int.mul_comm Y Q] at gQ
     rw [Int.mul_comm Y q] at gq
     generalize Q * Y = QY at *
     generalize q * Y = qY at *
     omega
    rw [hY, ← Int.mul_assoc] at hN
    have hv' : v = (h * 18446744073709551616 + l - (Q * 4294967296 + q) * y) * 2 ^ s := by rw [Int.sub_mul]; omega
    have hv2 : v / 2 ^ s = h * 18446744073709551616 + l - (Q * 4294967296 + q) * y := by rw [hv', Int.mul_ediv_cancel _ (by omega)]
    have hv3 : 0 ≤ v / 2 ^ s := Int.ediv_nonneg v0 (by omega)
    have hv4 : v / 2 ^ s < y := Int.ediv_lt_of_lt_mul hP (by rw [← hY]; exact v1)
    have e : (h * 18446744073709551616 + l) / y = Q * 4294967296 + q ∧ (h * 18446744073709551616 + l) % y = v / 2 ^ s := by
     have : h * 18446744073709551616 + l = v / 2 ^ s + y * (Q * 4294967296 + q) := by rw [hv2, Int.mul_comm y]; omega
     constructor
     ·rw [this, Int.add_mul_ediv_left _ _ (by omega), Int.ediv_eq_zero_of_lt hv3 hv4, Int.zero_add]
     ·rw [this, Int.add_mul_emod_self_left, Int.emod_eq_of_lt hv3 hv4]
    rw [e.1, e.2]
    exact fin
end Go.Proofs.YtdhdfcjpeflinaaN
set_option linter.unusedVariables false
namespace Go.Proofs.YtdhdfcjpeflinaaN
open Go.RowKit Go.Proofs.Ytdhdfcjpeflinaa.All Go.Proofs.YtdhdfcjpeflinaaW.PrintWords Go.Proofs.YtdhdfcjpeflinaaW.PrintLast Go.Proofs.YtdhdfcjpeflinaaW.PrintMore
theorem top_lt {x y : List Int} (hx : Dig B64 x) (hy : Dig B64 y) {i : Nat} (hi : i < x.length) (hi' : i < y.length) (hd : vB B64 (x.drop (i + 1)) = vB B64 (y.drop (i + 1))) (h : rd x (i : Int) < rd y (i : Int)) : vB B64 x < vB B64 y := by
 have hB : (0 : Int) < B64 := by decide
 have hsx := vB_split B64 x (i + 1) (by omega)
 have hsy := vB_split B64 y (i + 1) (by omega)
 rw [take_succ] at hsx hsy
 have ax := vB_lt hB (Dig_take hx i)
 rw [List.length_take, Nat.min_eq_left (by omega)] at ax
 have bb := vB_nonneg (Int.le_of_lt hB) (Dig_take hy i)
 rw [hd] at hsx
 have hP : (0 : Int) < B64 ^ i := Int.pow_pos hB
 rw [hsx, hsy]
 generalize vB B64 (x.take i) = X at *
 generalize vB B64 (y.take i) = Y at *
 generalize B64 ^ (i + 1) * vB B64 (y.drop (i + 1)) = Z at *
 generalize (B64 : Int) ^ i = P at *
 generalize rd x (i : Int) = a at *
 generalize rd y (i : Int) = b at *
 have h1 := Int.mul_le_mul_of_nonneg_left (show a + 1 ≤ b by omega) (Int.le_of_lt hP)
 rw [Int.mul_add, Int.mul_one] at h1
 clear hsx hsy hd
 omega
theorem cmp_l0 (x y : List Int) (hx : Dig B64 x) (hy : Dig B64 y) (hl : x.length = y.length) (hs : x.length < 9223372036854775808) {m n : Nat} (hm : vB B64 x = m) (hn : vB B64 y = n) : ∀ i : Nat, i ≤ x.length → vB B64 (x.drop i) = vB B64 (y.drop i) → Ev (fun k => exact_compareWords.l0 k x y ((i : Int) - 1)) (cmpN m n) := by
 have hB : (0 : Int) < B64 := by decide
 intro i
 induction i with
 | zero =>
  intro _ hd
  rw [List.drop_zero, List.drop_zero, hm, hn] at hd
  have e : m = n := by omega
  subst e
  refine Ev.step (f := fun _ => some 0) (fun k => ?_) (by
   have : cmpN m m = 0 := by simp [cmpN]
   rw [this]
   exact Ev.now _)
  simp only [exact_compareWords.l0]
  rw [if_neg (by decide)]
 | succ i ih =>
  intro hi hd
  have e0 : ((i + 1 : Nat) : Int) - 1 = (i : Int) := by omega
  have e1 : wrap64 ((i : Int) - 1) = (i : Int) - 1 := w64 (by omega) (by omega)
  have c1 : (i : Int) ≥ 0 := by omega
  have c2 : (i : Int) < (x.length : Int) := by omega
  have c3 : (i : Int) < (y.length : Int) := by omega
  rw [e0]
  by_cases he : rd x (i : Int) = rd y (i : Int)
  ·refine Ev.step (f := fun k => exact_compareWords.l0 k x y ((i : Int) - 1)) (fun k => ?_) (ih (by omega) ?_)
   ·simp only [exact_compareWords.l0, e1]
    rw [if_pos c1, if_pos c1, if_pos c2, if_pos c3, if_pos he]
   ·rw [List.drop_eq_getElem_cons (show i < x.length by omega), List.drop_eq_getElem_cons (show i < y.length by omega), vB_cons, vB_cons, hd, ← rd_get x i (by omega), ← rd_get y i (by omega), he]
  ·by_cases hab : rd x (i : Int) < rd y (i : Int)
   ·have h1 := top_lt hx hy (by omega) (by omega) hd hab
    have h2 : m < n := by rw [hm, hn] at h1; omega
    refine Ev.step (f := fun _ => some (-1)) (fun k => ?_) (by
     have : cmpN m n = -1 := by unfold cmpN; rw [if_pos h2]
     rw [this]
     exact Ev.now _)
    simp only [exact_compareWords.l0, e1]
    rw [if_pos c1, if_pos c1, if_pos c2, if_pos c3, if_neg he, if_pos hab]
   ·have h1 := top_lt hy hx (by omega) (by omega) hd.symm (show rd y (i : Int) < rd x (i : Int) by omega)
    have h2 : n < m := by rw [hm, hn] at h1; omega
    refine Ev.step (f := fun _ => some 1) (fun k => ?_) (by
     have : cmpN m n = 1 := by unfold cmpN; rw [if_neg (by omega), if_neg (by omega)]
     rw [this]
     exact Ev.now _)
    simp only [exact_compareWords.l0, e1]
    rw [if_pos c1, if_pos c1, if_pos c2, if_pos c3, if_neg he, if_neg hab]
theorem compareWords_ev {m n : Nat} (hm : (d64 m).length ≤ 1099511627776) (hn : (d64 n).length ≤ 1099511627776) : Ev (fun k => exact_compareWords.f k (d64 m) (d64 n)) (cmpN m n) := by
 by_cases h1 : (d64 m).length = (d64 n).length
 ·have := cmp_l0 (d64 m) (d64 n) (d64_dig m) (d64_dig n) h1 (by omega) (d64_val m) (d64_val n) (d64 m).length (Nat.le_refl _) (by
   rw [List.drop_of_length_le (Nat.le_refl _), List.drop_of_length_le (by omega)])
  refine Ev.congr (fun k => ?_) this
  unfold exact_compareWords.f
  rw [if_pos (by omega), w64 (by omega) (by omega)]
 ·by_cases h2 : (d64 m).length < (d64 n).length
  ·have h3 := trim_len (by decide) (d64_dig m) (d64_dig n) (d64_trim n) h2
   rw [d64_val, d64_val] at h3
   refine Ev.congr (f := fun _ => some (-1)) (fun k => ?_) (by
    have : cmpN m n = -1 := by unfold cmpN; rw [if_pos (by omega)]
    rw [this]
    exact Ev.now _)
   unfold exact_compareWords.f
   rw [if_neg (by omega), if_pos (by omega)]
  ·have h3 := trim_len (by decide) (d64_dig n) (d64_dig m) (d64_trim m) (by omega)
   rw [d64_val, d64_val] at h3
   refine Ev.congr (f := fun _ => some 1) (fun k => ?_) (by
    have : cmpN m n = 1 := by unfold cmpN; rw [if_neg (by omega), if_neg (by omega)]
    rw [this]
    exact Ev.now _)
   unfold exact_compareWords.f
   rw [if_neg (by omega), if_neg (by omega)]
theorem word_shift {x : Int} (x0 : 0 ≤ x) (x1 : x < B64) (s : Nat) (hs : s ≤ 63) : x * 2 ^ s = (x * 2 ^ s) % B64 + B64 * (x / 2 ^ (64 - s)) ∧ 0 ≤ x / 2 ^ (64 - s) ∧ x / 2 ^ (64 - s) < 2 ^ s ∧ ((x * 2 ^ s) % B64) % 2 ^ s = 0 := by
 have hP : (0 : Int) < 2 ^ s := Int.pow_pos (by decide)
 have hR : (0 : Int) < 2 ^ (64 - s) := Int.pow_pos (by decide)
 have hPR : (2 : Int) ^ (64 - s) * 2 ^ s = B64 := by
  rw [← Int.pow_add]
  have : 64 - s + s = 64 := by omega
  rw [this]
  rfl
 have g := Int.emod_add_mul_ediv x (2 ^ (64 - s))
 have g0 := Int.emod_nonneg x (show (2 : Int) ^ (64 - s) ≠ 0 by omega)
 have g1 := Int.emod_lt_of_pos x hR
 have g2 : x * 2 ^ s = x % 2 ^ (64 - s) * 2 ^ s + B64 * (x / 2 ^ (64 - s)) := by
  conv => lhs; rw [← g]
  rw [Int.add_mul, Int.mul_right_comm, hPR]
 have g3 : 0 ≤ x % 2 ^ (64 - s) * 2 ^ s := Int.mul_nonneg g0 (Int.le_of_lt hP)
 have g4 : x % 2 ^ (64 - s) * 2 ^ s < B64 := by
  have := Int.mul_lt_mul_of_pos_right g1 hP
  rwa [hPR] at this
 have g5 : (x * 2 ^ s) % B64 = x % 2 ^ (64 - s) * 2 ^ s := by
  rw [g2, Int.add_mul_emod_self_left, Int.emod_eq_of_lt g3 g4]
 refine ⟨by rw [g5]; exact g2, Int.ediv_nonneg x0 (Int.le_of_lt hR), Int.ediv_lt_of_lt_mul hR (by rw [Int.mul_comm, hPR]; exact x1), by rw [g5]; exact Int.mul_emod_left _ _⟩
theorem bits_or_comm {x y : Int} (x0 : 0 ≤ x) (x1 : x < 2 ^ 64) (y0 : 0 ≤ y) (y1 : y < 2 ^ 64) : Go.bits .or .u64 x y = Go.bits .or .u64 y x := by
 obtain ⟨a, rfl⟩ := Int.eq_ofNat_of_zero_le x0
 obtain ⟨b, rfl⟩ := Int.eq_ofNat_of_zero_le y0
 have ha : a < 2 ^ 64 := by omega
 have hb : b < 2 ^ 64 := by omega
 rw [(bits_nat .u64 64 (by decide) wraps_u64 a b ha hb).2, (bits_nat .u64 64 (by decide) wraps_u64 b a hb ha).2, Nat.or_comm]
theorem bits_join2 (s : Nat) (hs : s ≤ 64) {x y : Int} (x0 : 0 ≤ x) (x1 : x < 2 ^ s) (y0 : 0 ≤ y) (y1 : y < B64) (hy : y % 2 ^ s = 0) (hxy : x + y < B64) : Go.bits .or .u64 x y = x + y := by
 have y1' : y < 2 ^ 64 := by simpa using y1
 have x2 : x < 2 ^ 64 := Int.lt_of_le_of_lt (by omega) hxy
 have := bits_join .u64 64 (by decide) wraps_u64 s y x y0 hy y1' x0 x1 x2
 rw [Int.add_comm x y, ← this]
 exact bits_or_comm x0 x2 y0 y1'
def ShiftOut (w out : List Int) (s i : Nat) : Prop :=
 out.length = w.length + 1 ∧ Dig B64 out ∧ vB B64 out = vB B64 (w.take i) * 2 ^ s ∧ (rd out (i : Int) < 2 ^ s) ∧ ∀ j : Nat, i < j → rd out (j : Int) = 0
theorem shift_out {w out : List Int} {s i : Nat} (hs : s ≤ 63) (hw : Dig B64 w) (hi : i < w.length) (h : ShiftOut w out s i) :
  ShiftOut w ((out.set i (rd out (i : Int) + (rd w (i : Int) * 2 ^ s) % B64)).set (i + 1) (rd w (i : Int) / 2 ^ (64 - s))) s (i + 1) ∧ 0 ≤ rd out (i : Int) + (rd w (i : Int) * 2 ^ s) % B64 ∧ rd out (i : Int) + (rd w (i : Int) * 2 ^ s) % B64 < B64 := by
 obtain ⟨hl, hd, hv, hr, hz⟩ := h
 obtain ⟨x0, x1⟩ := Dig_rd hw i hi
 obtain ⟨o0, o1⟩ := Dig_rd hd i (by omega)
 obtain ⟨a1, a2, a3, a4⟩ := word_shift x0 x1 s hs
 have hP : (0 : Int) < 2 ^ s := Int.pow_pos (by decide)
 have m0 := Int.emod_nonneg (rd w (i : Int) * 2 ^ s) (show (B64 : Int) ≠ 0 by decide)
 have m1 := Int.emod_lt_of_pos (rd w (i : Int) * 2 ^ s) (show (0 : Int) < B64 by decide)
 have hsum : rd out (i : Int) + (rd w (i : Int) * 2 ^ s) % B64 < B64 := by
  obtain ⟨c, hc⟩ : ∃ c, c * 2 ^ s = B64 := ⟨2 ^ (64 - s), by
   rw [← Int.pow_add]
   have : 64 - s + s = 64 := by omega
   rw [this]
   rfl⟩
  have h1 := Int.emod_add_mul_ediv ((rd w (i : Int) * 2 ^ s) % B64) (2 ^ s)
  rw [a4, Int.zero_add] at h1
  generalize ((rd w (i : Int) * 2 ^ s) % B64) / 2 ^ s = e at *
  generalize (rd w (i : Int) * 2 ^ s) % B64 = M at *
  rw [← h1, ← hc] at m1
  have h2 : e < c := Int.lt_of_mul_lt_mul_right (by rwa [Int.mul_comm (2 ^ s) e] at m1) (Int.le_of_lt hP)
  have h3 := Int.mul_le_mul_of_nonneg_right (show e + 1 ≤ c by omega) (Int.le_of_lt hP)
  rw [Int.add_mul, Int.one_mul, hc, Int.mul_comm e] at h3
  omega
 have hsum0 : 0 ≤ rd out (i : Int) + (rd w (i : Int) * 2 ^ s) % B64 := by omega
 have hlt : rd w (i : Int) / 2 ^ (64 - s) < B64 := by
  have : (2 : Int) ^ s ≤ 2 ^ 63 := pow_le_pow (by decide) hs
  have e : (2 : Int) ^ 63 < B64 := by decide
  exact Int.lt_trans a3 (Int.lt_of_le_of_lt this e)
 refine ⟨⟨by rw [List.length_set, List.length_set]; exact hl, Dig_set (Dig_set hd _ hsum0 hsum) _ a2 hlt, ?_, ?_, fun j hj => ?_⟩, hsum0, hsum⟩
 ·have c1 : i < out.length := by omega
  have c2 : i + 1 < (out.set i (rd out (i : Int) + (rd w (i : Int) * 2 ^ s) % B64)).length := by rw [List.length_set]; omega
  rw [vB_set _ _ _ _ c2, rd_set_ne _ _ _ _ (by omega), hz (i + 1) (by omega), vB_set _ _ _ _ c1, hv, take_succ, Int.pow_succ, Int.sub_zero, Int.add_mul]
  have e1 : rd out (i : Int) + rd w (i : Int) * 2 ^ s % B64 - rd out (i : Int) = rd w (i : Int) * 2 ^ s % B64 := by omega
  rw [e1, Int.mul_assoc (B64 ^ i) B64, Int.mul_assoc (B64 ^ i) (rd w (i : Int)), a1, Int.mul_add, Int.add_assoc]
  congr 2
  rw [← a1]
 ·rw [rd_set_self _ _ _ (by rw [List.length_set]; omega)]
  exact a3
 ·rw [rd_set_ne _ _ _ _ (by omega), rd_set_ne _ _ _ _ (by omega)]
  exact hz j (by omega)
theorem shiftUp_l0 (w : List Int) (hw : Dig B64 w) (lw : w.length ≤ 1099511627776) (s : Nat) (hs : s ≤ 63) : ∀ (d i : Nat) (out : List Int), i + d = w.length → ShiftOut w out s i →
  ∃ r, r.length = w.length + 1 ∧ Dig B64 r ∧ vB B64 r = vB B64 w * 2 ^ s ∧ Ev (fun k => exact_shiftUp.l0 k (s : Int) out w (w.length : Int) (i : Int)) r := by
 intro d
 induction d with
 | zero =>
  intro i out hi h
  obtain ⟨hl, hd, hv, hr, hz⟩ := h
  have hi : i = w.length := by omega
  subst hi
  refine ⟨out, hl, hd, by rw [hv, vB_all _ _ _ (Nat.le_refl _)], Ev.step (f := fun _ => some out) (fun k => ?_) (Ev.now _)⟩
  simp only [exact_shiftUp.l0]
  rw [if_neg (Int.lt_irrefl _)]
 | succ d ih =>
  intro i out hi h
  have hi' : i < w.length := by omega
  obtain ⟨hn, n0, n1⟩ := shift_out hs hw hi' h
  have hl := h.1
  have hr := h.2.2.2.1
  obtain ⟨o0, o1⟩ := Dig_rd h.2.1 i (by omega)
  have hz := h.2.2.2.2 (i + 1) (by omega)
  obtain ⟨x0, x1⟩ := Dig_rd hw i hi'
  obtain ⟨a1, a2, a3, a4⟩ := word_shift x0 x1 s hs
  have m0 := Int.emod_nonneg (rd w (i : Int) * 2 ^ s) (show (B64 : Int) ≠ 0 by decide)
  have m1 := Int.emod_lt_of_pos (rd w (i : Int) * 2 ^ s) (show (0 : Int) < B64 by decide)
  have c1 : (i : Int) < (w.length : Int) := Int.ofNat_lt.2 hi'
  have c2 : (i : Int) < (out.length : Int) := by omega
  have c3 : ((i + 1 : Nat) : Int) < (out.length : Int) := by omega
  have c4 : i + 1 + d = w.length := by omega
  obtain ⟨r, r1, r2, r3, r4⟩ := ih (i + 1) _ c4 hn
  refine ⟨r, r1, r2, r3, Ev.step (f := fun k => exact_shiftUp.l0 k (s : Int) ((out.set i (rd out (i : Int) + (rd w (i : Int) * 2 ^ s) % B64)).set (i + 1) (rd w (i : Int) / 2 ^ (64 - s))) w (w.length : Int) ((i + 1 : Nat) : Int)) (fun k => ?_) r4⟩
  have c5 : ¬ (s : Int) > 0 → s = 0 := by omega
  have g1 : Go.bits .or .u64 (rd out (i : Int)) (shl .u64 (rd w (i : Int)) (s : Int)) = rd out (i : Int) + (rd w (i : Int) * 2 ^ s) % B64 := by
   rw [shl_eq _ _ (by omega)]
   have := bits_join2 s (by omega) o0 hr m0 m1 a4 n1
   exact this
  have g2 : shr .u64 (rd w (i : Int)) ((64 - s : Nat) : Int) = rd w (i : Int) / 2 ^ (64 - s) := shr_eq _ _ (by omega)
  have e1 : wrap64 ((i : Int) + 1) = ((i + 1 : Nat) : Int) := by clear a1 g1 g2; rw [w64 (by omega) (by omega)]; omega
  have e2 : wrap64 (64 - (s : Int)) = ((64 - s : Nat) : Int) := by clear a1 g1 g2 e1; rw [w64 (by omega) (by omega)]; omega
  simp only [exact_shiftUp.l0, e1, e2, g1, g2, Int.toNat_natCast, Option.bind_some]
  rw [if_pos c1, if_pos (Int.natCast_nonneg _), if_pos c1, if_pos c2, if_pos (Int.natCast_nonneg _)]
  by_cases hs0 : (s : Int) > 0
  ·rw [if_pos hs0, if_pos (Int.natCast_nonneg _), if_pos (Int.natCast_nonneg _), if_pos c3]
  ·rw [if_neg hs0]
   have hs1 := c5 hs0
   subst hs1
   have hq : rd w (i : Int) / 2 ^ (64 - 0) = 0 := Int.ediv_eq_zero_of_lt x0 x1
   rw [hq]
   have := set_eq (out.set i (rd out (i : Int) + (rd w (i : Int) * 2 ^ 0) % B64)) (i + 1) (by rw [List.length_set]; clear a1 g1 g2 e1 e2; omega)
   rw [rd_set_ne _ _ _ _ (by clear a1 g1 g2 e1 e2; omega), hz] at this
   rw [this]
theorem shiftUp_ev (w : List Int) (hw : Dig B64 w) (lw : w.length ≤ 1099511627776) (s : Nat) (hs : s ≤ 63) : ∃ r, r.length = w.length + 1 ∧ Dig B64 r ∧ vB B64 r = vB B64 w * 2 ^ s ∧ Ev (fun k => exact_shiftUp.f k w (s : Int)) r := by
 obtain ⟨r, r1, r2, r3, r4⟩ := shiftUp_l0 w hw lw s hs w.length 0 (List.replicate (w.length + 1) 0) (Nat.zero_add _) ⟨by simp, Dig_replicate (by decide) _, by rw [vB_replicate]; simp [vB], by rw [rd_replicate]; exact Int.pow_pos (by decide), fun j _ => rd_replicate _ _⟩
 refine ⟨r, r1, r2, r3, Ev.congr (fun k => ?_) r4⟩
 unfold exact_shiftUp.f
 have e1 : wrap64 ((w.length : Int) + 1) = ((w.length + 1 : Nat) : Int) := by rw [w64 (by omega) (by omega)]; omega
 rw [e1, if_pos (Int.natCast_nonneg _), Int.toNat_natCast, if_pos (by omega)]
 rfl
end Go.Proofs.YtdhdfcjpeflinaaN
set_option linter.unusedVariables false
namespace Go.Proofs.YtdhdfcjpeflinaaN
open Go.RowKit Go.Proofs.Ytdhdfcjpeflinaa.All Go.Proofs.YtdhdfcjpeflinaaW.PrintWords Go.Proofs.YtdhdfcjpeflinaaW.PrintLast Go.Proofs.YtdhdfcjpeflinaaW.PrintMore
def SubMul (u v z : List Int) (q : Int) (i : Nat) (b c : Int) : Prop :=
 z.length = u.length ∧ Dig B64 z ∧ (0 ≤ b ∧ b ≤ 1) ∧ (0 ≤ c ∧ c < B64) ∧ vB B64 z + q * vB B64 (v.take i) = vB B64 u + B64 ^ i * (b + c)
theorem sub_mul {u v z : List Int} {q b c d e : Int} {i : Nat} (hz : i < z.length) (q0 : 0 ≤ q) (q1 : q < B64) (hv : Dig B64 v) (hi : i < v.length) (h : SubMul u v z q i b c) (d0 : 0 ≤ d) (d1 : d < B64) (e0 : 0 ≤ e) (e1 : e ≤ 1)
  (he : d = rd z (i : Int) - (q * rd v (i : Int) + 0 + c) % B64 - b + B64 * e) : SubMul u v (z.set i d) q (i + 1) e ((q * rd v (i : Int) + 0 + c) / B64) := by
 obtain ⟨hl, hd, hb, hc, hs⟩ := h
 obtain ⟨y0, y1⟩ := Dig_rd hv i hi
 obtain ⟨-, -, n0, n1⟩ := mul_add q0 q1 y0 y1 (Int.le_refl 0) (by decide) hc.1 hc.2
 refine ⟨by rw [List.length_set]; exact hl, Dig_set hd _ d0 d1, ⟨e0, e1⟩, ⟨n0, n1⟩, ?_⟩
 rw [vB_set _ _ _ _ hz, take_succ, Int.pow_succ, he]
 have g := Int.emod_add_mul_ediv (q * rd v (i : Int) + 0 + c) B64
 generalize (q * rd v (i : Int) + 0 + c) / B64 = C at *
 generalize (q * rd v (i : Int) + 0 + c) % B64 = l at *
 have er : l = q * rd v (i : Int) + c - B64 * C := by clear hs; omega
 have e2 : rd z (i : Int) - l - b + B64 * e - rd z (i : Int) = B64 * e + B64 * C - q * rd v (i : Int) - c - b := by clear hs; omega
 rw [e2]
 generalize rd v (i : Int) = y at *
 generalize vB B64 (List.take i v) = T at *
 generalize (B64 : Int) ^ i = P at *
 rw [Int.mul_add q, Int.mul_left_comm q P y, Int.mul_sub, Int.mul_sub, Int.mul_sub, Int.mul_add, Int.mul_assoc P B64, Int.mul_add B64, Int.mul_add P]
 rw [Int.mul_add] at hs
 generalize q * y = qy at *
 generalize P * qy = A at *
 generalize P * (B64 * e) = A1 at *
 generalize P * (B64 * C) = A2 at *
 generalize P * c = A3 at *
 generalize P * b = A4 at *
 omega
def AddBack (u v z : List Int) (i : Nat) (c : Int) : Prop :=
 z.length = u.length ∧ Dig B64 z ∧ (0 ≤ c ∧ c ≤ 1) ∧ vB B64 z + B64 ^ i * c = vB B64 u + vB B64 (v.take i)
theorem add_back {u v z : List Int} {i : Nat} {c : Int} (hz : i < z.length) (hv : Dig B64 v) (hi : i < v.length) (h : AddBack u v z i c) :
  AddBack u v (z.set i ((rd z (i : Int) + rd v (i : Int) + c) % B64)) (i + 1) ((rd z (i : Int) + rd v (i : Int) + c) / B64) := by
 obtain ⟨hl, hd, hc, hs⟩ := h
 obtain ⟨x0, x1⟩ := Dig_rd hd i hz
 obtain ⟨y0, y1⟩ := Dig_rd hv i hi
 refine ⟨by rw [List.length_set]; exact hl, Dig_set hd _ (Int.emod_nonneg _ (by decide)) (Int.emod_lt_of_pos _ (by decide)), add_range x0 x1 y0 y1 hc.1 hc.2, ?_⟩
 rw [vB_set _ _ _ _ hz, take_succ, Int.pow_succ]
 have e := Int.emod_add_mul_ediv (rd z (i : Int) + rd v (i : Int) + c) B64
 generalize (rd z (i : Int) + rd v (i : Int) + c) / B64 = q at *
 generalize (rd z (i : Int) + rd v (i : Int) + c) % B64 = r at *
 have er : r - rd z (i : Int) = rd v (i : Int) + c - B64 * q := by clear hs; omega
 rw [er, Int.mul_sub, Int.mul_add, Int.mul_assoc (B64 ^ i) B64 q]
 generalize (B64 : Int) ^ i = P at *
 omega
theorem back_last {u v z : List Int} {n : Nat} {c U q : Int} (hn : v.length = n) (hl : u.length = n + 1) (h : AddBack u v z n c) (hu : vB B64 u = U - q * vB B64 v + B64 ^ (n + 1)) (h0 : 0 ≤ U - (q - 1) * vB B64 v) (h1 : U - (q - 1) * vB B64 v < B64 ^ (n + 1)) :
  vB B64 (z.set n (IntKind.u64.wrap (rd z (n : Int) + c))) = U - (q - 1) * vB B64 v ∧ Dig B64 (z.set n (IntKind.u64.wrap (rd z (n : Int) + c))) := by
 obtain ⟨hlz, hd, hc, hs⟩ := h
 have hz : n < z.length := by omega
 obtain ⟨x0, x1⟩ := Dig_rd hd n hz
 have hdd : Dig B64 (z.set n (IntKind.u64.wrap (rd z (n : Int) + c))) := Dig_set hd _ (by rw [u64_mod]; exact Int.emod_nonneg _ (by decide)) (by rw [u64_mod]; exact Int.emod_lt_of_pos _ (by decide))
 refine ⟨?_, hdd⟩
 have b0 := vB_nonneg (by decide) hdd
 have b1 := vB_lt (by decide) hdd
 rw [List.length_set, hlz, hl] at b1
 rw [vB_set _ _ _ _ hz] at b0 b1 ⊢
 rw [vB_all _ _ _ (by rw [hn]; exact Nat.le_refl _)] at hs
 rw [u64_mod] at b0 b1 ⊢
 rw [Int.sub_mul, Int.one_mul] at h0 h1 ⊢
 have e := Int.emod_add_mul_ediv (rd z (n : Int) + c) 18446744073709551616
 have x1' : rd z (n : Int) < 18446744073709551616 := x1
 have he : (rd z (n : Int) + c) / 18446744073709551616 = 0 ∨ (rd z (n : Int) + c) / 18446744073709551616 = 1 := by clear hs hu h0 h1 b0 b1; omega
 have hBB : (B64 : Int) ^ (n + 1) = B64 ^ n * 18446744073709551616 := Int.pow_succ _ _
 rw [hBB] at hu h1 b1
 clear hBB hdd hd
 generalize (rd z (n : Int) + c) / 18446744073709551616 = E at *
 generalize (rd z (n : Int) + c) % 18446744073709551616 = r at *
 have er : r - rd z (n : Int) = c - 18446744073709551616 * E := by clear hs hu h0 h1 b0 b1; omega
 rw [er, Int.mul_sub] at b0 b1 ⊢
 clear er e
 generalize (B64 : Int) ^ n = P at *
 generalize q * vB B64 v = qV at *
 generalize P * c = Pc at *
 rcases he with rfl | rfl
 ·simp only [Int.mul_zero, Int.sub_zero] at b0 b1 ⊢
  omega
 ·simp only [Int.mul_one] at b0 b1 ⊢
  omega
theorem step_l2 {u v : List Int} {n : Nat} {q U : Int} (hn : v.length = n) (ln : n ≤ 1099511627776) (hv : Dig B64 v) (hl : u.length = n + 1) (hu : vB B64 u = U - q * vB B64 v + B64 ^ (n + 1)) (h0 : 0 ≤ U - (q - 1) * vB B64 v) (h1 : U - (q - 1) * vB B64 v < B64 ^ (n + 1)) (q0 : 1 ≤ q) (q1 : q < B64) :
  ∀ (d i : Nat) (z : List Int) (c : Int), i + d = n → AddBack u v z i c → ∃ r, r.length = n + 1 ∧ Dig B64 r ∧ vB B64 r = U - (q - 1) * vB B64 v ∧ Ev (fun k => exact_step.l2 k z v (n : Int) q c (n : Int) (i : Int)) (q - 1, r) := by
 intro d
 induction d with
 | zero =>
  intro i z c hi h
  have hi : i = n := by omega
  subst hi
  obtain ⟨g1, g2⟩ := back_last hn hl h hu h0 h1
  have hlz := h.1
  have c1 : (i : Int) < (z.length : Int) := by omega
  have q1' : q < 18446744073709551616 := q1
  have w1 : IntKind.u64.wrap (q - 1) = q - 1 := by clear hu h0 h1 g1; exact u64 (by omega) (by omega)
  refine ⟨_, by rw [List.length_set, hlz, hl], g2, g1, Ev.step (f := fun _ => some _) (fun k => ?_) (Ev.now _)⟩
  simp only [exact_step.l2, w1]
  rw [if_neg (Int.lt_irrefl _), if_pos (Int.natCast_nonneg _), if_pos c1, Int.toNat_natCast]
 | succ d ih =>
  intro i z c hi h
  have hi' : i < n := by omega
  have hlz := h.1
  have hiz : i < z.length := by omega
  have c0 : i + 1 + d = n := by omega
  have c1 : (i : Int) < (n : Int) := by omega
  have c2 : (i : Int) < (z.length : Int) := by omega
  have c3 : (i : Int) < (v.length : Int) := by omega
  obtain ⟨x0, x1⟩ := Dig_rd h.2.1 i hiz
  obtain ⟨y0, y1⟩ := Dig_rd hv i (by omega)
  have ea := add64_eq x0 y0 h.2.2.1.1 h.2.2.1.2
  have e1 : wrap64 ((i : Int) + 1) = ((i + 1 : Nat) : Int) := by clear hu h0 h1; rw [w64 (by omega) (by omega)]; omega
  obtain ⟨r, r1, r2, r3, r4⟩ := ih (i + 1) _ _ c0 (add_back hiz hv (by rw [hn]; exact hi') h)
  refine ⟨r, r1, r2, r3, Ev.step (fun k => ?_) r4⟩
  simp only [exact_step.l2, e1]
  rw [if_pos c1, if_pos (Int.natCast_nonneg _), if_pos c2, if_pos c3, ea, Option.bind_some, Int.toNat_natCast]
theorem sub_last {u v z : List Int} {n : Nat} {q b c d e : Int} (hn : v.length = n) (hl : u.length = n + 1) (h : SubMul u v z q n b c) (d0 : 0 ≤ d) (d1 : d < B64) (e0 : 0 ≤ e) (e1 : e ≤ 1) (he : d = rd z (n : Int) - c - b + B64 * e) :
  (z.set n d).length = n + 1 ∧ Dig B64 (z.set n d) ∧ vB B64 (z.set n d) = vB B64 u - q * vB B64 v + B64 ^ (n + 1) * e := by
 obtain ⟨hlz, hd, hb, hc, hs⟩ := h
 refine ⟨by rw [List.length_set, hlz, hl], Dig_set hd _ d0 d1, ?_⟩
 rw [vB_set _ _ _ _ (by omega), Int.pow_succ, he]
 rw [vB_all _ _ _ (by rw [hn]; exact Nat.le_refl _)] at hs
 have e2 : rd z (n : Int) - c - b + B64 * e - rd z (n : Int) = B64 * e - c - b := by clear hs; omega
 rw [e2, Int.mul_sub, Int.mul_sub, Int.mul_assoc (B64 ^ n) B64]
 rw [Int.mul_add] at hs
 generalize (B64 : Int) ^ n = P at *
 generalize P * (B64 * e) = A1 at *
 generalize P * c = A3 at *
 generalize P * b = A4 at *
 omega
theorem step_l1 {u v : List Int} {n : Nat} {q : Int} (hn : v.length = n) (ln : n ≤ 1099511627776) (hu : Dig B64 u) (hv : Dig B64 v) (hl : u.length = n + 1) (hV : 0 < vB B64 v) (q0 : 0 ≤ q) (q1 : q < B64)
  (hq : vB B64 u / vB B64 v ≤ q) (hq' : q ≤ vB B64 u / vB B64 v + 1) : ∀ (d i : Nat) (z : List Int) (b c : Int), i + d = n → SubMul u v z q i b c →
  ∃ r, r.length = n + 1 ∧ Dig B64 r ∧ vB B64 r = vB B64 u % vB B64 v ∧ Ev (fun k => exact_step.l1 k z v (n : Int) q b c (n : Int) (i : Int)) (vB B64 u / vB B64 v, r) := by
 have hB : (0 : Int) < B64 := by decide
 have hU0 := vB_nonneg (Int.le_of_lt hB) hu
 have hU1 := vB_lt hB hu
 have hV1 := vB_lt hB hv
 rw [hl] at hU1
 rw [hn] at hV1
 have hdm := Int.emod_add_mul_ediv (vB B64 u) (vB B64 v)
 have hm0 := Int.emod_nonneg (vB B64 u) (show vB B64 v ≠ 0 by omega)
 have hm1 := Int.emod_lt_of_pos (vB B64 u) hV
 have hp := pow_le_pow hB (show n ≤ n + 1 by omega)
 intro d
 induction d with
 | zero =>
  intro i z b c hi h
  have hi : i = n := by omega
  subst hi
  have hlz := h.1
  have c1 : (i : Int) < (z.length : Int) := by clear hU1 hV1 hp; omega
  obtain ⟨x0, x1⟩ := Dig_rd h.2.1 i (by clear hU1 hV1 hp; omega)
  obtain ⟨d, e, ea, d0, d1, b0, b1, he⟩ := sub64_eq x0 x1 h.2.2.2.1.1 h.2.2.2.1.2 h.2.2.1.1 h.2.2.1.2
  obtain ⟨g1, g2, g3⟩ := sub_last hn hl h d0 d1 b0 b1 he
  have hcase : e = 0 ∨ e = 1 := by clear hU1 hV1 hp g3; omega
  rcases hcase with rfl | rfl
  ·rw [Int.mul_zero, Int.add_zero] at g3
   have g4 := vB_nonneg (Int.le_of_lt hB) g2
   rw [g3] at g4
   have hqe : q = vB B64 u / vB B64 v := by
    have : q ≤ vB B64 u / vB B64 v := Int.le_ediv_of_mul_le hV (by clear hU1 hV1 hp; omega)
    clear hU1 hV1 hp; omega
   refine ⟨z.set i d, g1, g2, ?_, Ev.step (f := fun _ => some _) (fun k => ?_) (Ev.now _)⟩
   ·rw [g3, hqe]
    rw [Int.mul_comm] at hdm
    generalize vB B64 u / vB B64 v * vB B64 v = A at *
    clear hU1 hV1 hp; omega
   ·simp only [exact_step.l1]
    rw [if_neg (Int.lt_irrefl _), if_pos (Int.natCast_nonneg _), if_pos c1, ea, Option.bind_some, Option.bind_some, if_pos rfl, Int.toNat_natCast, ← hqe]
  ·rw [Int.mul_one] at g3
   have g4 := vB_lt hB g2
   rw [g1, g3] at g4
   have hqe : vB B64 u / vB B64 v = q - 1 := by
    have : vB B64 u / vB B64 v < q := Int.ediv_lt_of_lt_mul hV (by
     generalize (B64 : Int) ^ (i + 1) = P at *
     omega)
    clear hU1 hV1 hp g4 g3; omega
   have hre : vB B64 u - (q - 1) * vB B64 v = vB B64 u % vB B64 v := by
    rw [hqe, Int.mul_comm] at hdm
    generalize (q - 1) * vB B64 v = A at *
    clear hU1 hV1 hp g4 g3; omega
   have hq00 : 0 ≤ vB B64 u / vB B64 v := Int.ediv_nonneg hU0 (Int.le_of_lt hV)
   have hq01 : 1 ≤ q := by clear hU1 hV1 hp g4 g3; omega
   obtain ⟨r, r1, r2, r3, r4⟩ := step_l2 (u := z.set i d) (U := vB B64 u) hn ln hv g1 g3 (by rw [hre]; exact hm0) (by rw [hre]; exact Int.lt_trans hm1 (Int.lt_of_lt_of_le hV1 hp)) hq01 q1 i 0 (z.set i d) 0 (Nat.zero_add _) ⟨rfl, g2, ⟨by decide, by decide⟩, by simp [vB]⟩
   refine ⟨r, r1, r2, by rw [r3, hre], ?_⟩
   rw [hqe]
   refine Ev.step (f := fun k => exact_step.l2 k (z.set i d) v (i : Int) q 0 (i : Int) ((0 : Nat) : Int)) (fun k => ?_) r4
   simp only [exact_step.l1]
   rw [if_neg (Int.lt_irrefl _), if_pos (Int.natCast_nonneg _), if_pos c1, ea, Option.bind_some, Option.bind_some, if_neg (show ¬ (1 : Int) = 0 by decide), Int.toNat_natCast]
   rfl
 | succ d ih =>
  intro i z b c hi h
  have hlz := h.1
  have hi' : i < n := by clear hU1 hV1 hp; omega
  have hiz : i < z.length := by clear hU1 hV1 hp; omega
  have c0 : i + 1 + d = n := by clear hU1 hV1 hp; omega
  have c1 : (i : Int) < (n : Int) := Int.ofNat_lt.2 hi'
  have c2 : (i : Int) < (z.length : Int) := Int.ofNat_lt.2 hiz
  have c3 : (i : Int) < (v.length : Int) := by rw [hn]; exact c1
  have hiv : i < v.length := by rw [hn]; exact hi'
  obtain ⟨x0, x1⟩ := Dig_rd h.2.1 i hiz
  obtain ⟨y0, y1⟩ := Dig_rd hv i hiv
  have hc := h.2.2.2.1
  have hb := h.2.2.1
  obtain ⟨m0, m1, n0, n1⟩ := mul_add q0 q1 y0 y1 (Int.le_refl 0) hB hc.1 hc.2
  have a1 := mul64_eq q0 q1 y0 y1
  have a2 := add64_eq (Int.emod_nonneg (q * rd v (i : Int)) (show (B64 : Int) ≠ 0 by decide)) hc.1 (Int.le_refl 0) (by decide)
  have l0 := Int.emod_nonneg (q * rd v (i : Int) + 0 + c) (show (B64 : Int) ≠ 0 by decide)
  have l1 := Int.emod_lt_of_pos (q * rd v (i : Int) + 0 + c) (show (0 : Int) < B64 by decide)
  obtain ⟨d, e, ea, d0, d1, b0, b1, he⟩ := sub64_eq x0 x1 l0 l1 hb.1 hb.2
  have e1 : wrap64 ((i : Int) + 1) = ((i + 1 : Nat) : Int) := by clear hU1 hV1 hp a1 a2 m0 m1 ea he hdm; rw [w64 (by omega) (by omega)]; omega
  have e2 : (q * rd v (i : Int) % B64 + c + 0) % B64 = (q * rd v (i : Int) + 0 + c) % B64 ∧ IntKind.u64.wrap (q * rd v (i : Int) / B64 + (q * rd v (i : Int) % B64 + c + 0) / B64) = (q * rd v (i : Int) + 0 + c) / B64 := by
   clear hU1 hV1 hp a1 a2 ea he hdm m0 m1
   have hc2 : c < 18446744073709551616 := hc.2
   have n0' : 0 ≤ (q * rd v (i : Int) + 0 + c) / 18446744073709551616 := n0
   have n1' : (q * rd v (i : Int) + 0 + c) / 18446744073709551616 < 18446744073709551616 := n1
   have hc1 := hc.1
   show (q * rd v (i : Int) % 18446744073709551616 + c + 0) % 18446744073709551616 = (q * rd v (i : Int) + 0 + c) % 18446744073709551616 ∧ IntKind.u64.wrap (q * rd v (i : Int) / 18446744073709551616 + (q * rd v (i : Int) % 18446744073709551616 + c + 0) / 18446744073709551616) = (q * rd v (i : Int) + 0 + c) / 18446744073709551616
   generalize q * rd v (i : Int) = p at *
   have e3 : p / 18446744073709551616 + (p % 18446744073709551616 + c + 0) / 18446744073709551616 = (p + 0 + c) / 18446744073709551616 := by omega
   rw [e3, u64 n0' n1']
   exact ⟨by omega, rfl⟩
  obtain ⟨r, r1, r2, r3, r4⟩ := ih (i + 1) _ _ _ c0 (sub_mul hiz q0 q1 hv hiv h d0 d1 b0 b1 he)
  refine ⟨r, r1, r2, r3, Ev.step (fun k => ?_) r4⟩
  simp only [exact_step.l1, e1]
  rw [if_pos c1, if_pos (Int.natCast_nonneg _), if_pos c3, a1, Option.bind_some, a2, Option.bind_some, if_pos c2, e2.1, ea, Option.bind_some, e2.2, Int.toNat_natCast]
end Go.Proofs.YtdhdfcjpeflinaaN
set_option linter.unusedVariables false
namespace Go.Proofs.YtdhdfcjpeflinaaN
open Go.RowKit Go.Proofs.Ytdhdfcjpeflinaa.All Go.Proofs.YtdhdfcjpeflinaaW.PrintWords Go.Proofs.YtdhdfcjpeflinaaW.PrintLast Go.Proofs.YtdhdfcjpeflinaaW.PrintMore
theorem split2 {v : List Int} {n : Nat} (hv : Dig B64 v) (hn : v.length = n + 2) : ∃ l, 0 ≤ l ∧ l < B64 ^ n ∧ vB B64 v = l + B64 ^ n * (rd v (n : Int) + B64 * rd v ((n + 1 : Nat) : Int)) := by
 refine ⟨vB B64 (v.take n), vB_nonneg (by decide) (Dig_take hv _), ?_, ?_⟩
 ·have := vB_lt (by decide) (Dig_take hv n)
  rwa [List.length_take, Nat.min_eq_left (by omega)] at this
 ·have h := vB_all B64 v (n + 1 + 1) (by omega)
  rw [← h, take_succ, take_succ, Int.pow_succ, Int.mul_add, Int.mul_assoc, Int.add_assoc]
theorem split3 {u : List Int} {n : Nat} (hu : Dig B64 u) (hn : u.length = n + 3) : ∃ l, 0 ≤ l ∧ l < B64 ^ n ∧ vB B64 u = l + B64 ^ n * (rd u (n : Int) + B64 * (rd u ((n + 1 : Nat) : Int) + B64 * rd u ((n + 2 : Nat) : Int))) := by
 refine ⟨vB B64 (u.take n), vB_nonneg (by decide) (Dig_take hu _), ?_, ?_⟩
 ·have := vB_lt (by decide) (Dig_take hu n)
  rwa [List.length_take, Nat.min_eq_left (by omega)] at this
 ·have h := vB_all B64 u (n + 1 + 1 + 1) (by omega)
  have p1 : (B64 : Int) ^ (n + 1) = B64 ^ n * B64 := Int.pow_succ _ _
  have p2 : (B64 : Int) ^ (n + 1 + 1) = B64 ^ n * B64 * B64 := by rw [Int.pow_succ, p1]
  rw [← h, take_succ, take_succ, take_succ, p2, p1, Int.mul_add B64, Int.mul_add (B64 ^ n), Int.mul_add (B64 ^ n), Int.mul_assoc (B64 ^ n) B64 (rd u _), Int.mul_assoc (B64 ^ n * B64) B64, Int.mul_assoc (B64 ^ n) B64 (B64 * _)]
  generalize B64 ^ n * rd u (n : Int) = a
  generalize B64 ^ n * (B64 * rd u ((n + 1 : Nat) : Int)) = b
  generalize B64 ^ n * (B64 * (B64 * rd u ((n + 2 : Nat) : Int))) = c
  omega
section
theorem guess_le {P lv lu W X q U V : Int} (hP : 0 < P) (lv0 : 0 ≤ lv) (lv1 : lv < P) (lu0 : 0 ≤ lu) (hV : V = lv + P * W) (hU : U = lu + P * X) (hW : B64 ≤ W) (q0 : 0 ≤ q) (q1 : q < B64) (h : q * W ≤ X) : q ≤ U / V + 1 := by
 have hV0 : 0 < V := by
  have : 0 < P * W := Int.mul_pos hP (Int.lt_of_lt_of_le (by decide) hW)
  omega
 have h1 : q * V < U + V := by
  have e1 : q * V = q * lv + P * (q * W) := by rw [hV, Int.mul_add, Int.mul_left_comm]
  have e2 : P * (q * W) ≤ P * X := Int.mul_le_mul_of_nonneg_left h (Int.le_of_lt hP)
  have e3 : q * lv ≤ q * P := Int.mul_le_mul_of_nonneg_left (Int.le_of_lt lv1) q0
  have e4 : q * P < B64 * P := Int.mul_lt_mul_of_pos_right q1 hP
  have e5 : P * B64 ≤ P * W := Int.mul_le_mul_of_nonneg_left hW (Int.le_of_lt hP)
  rw [Int.mul_comm B64 P] at e4
  omega
 have h2 : (q - 1) * V ≤ U := by rw [Int.sub_mul, Int.one_mul]; omega
 have := Int.le_ediv_of_mul_le hV0 h2
 omega
theorem guess_gt {P lv lu W X q U V : Int} (hP : 0 < P) (lv0 : 0 ≤ lv) (lu1 : lu < P) (hV : V = lv + P * W) (hU : U = lu + P * X) (hV0 : 0 < V) (q0 : 0 ≤ q) (h : X < q * W) : U / V ≤ q - 1 := by
 have : U / V < q := by
  apply Int.ediv_lt_of_lt_mul hV0
  have e1 : q * V = q * lv + P * (q * W) := by rw [hV, Int.mul_add, Int.mul_left_comm]
  have e2 : P * (X + 1) ≤ P * (q * W) := Int.mul_le_mul_of_nonneg_left (by omega) (Int.le_of_lt hP)
  rw [Int.mul_add, Int.mul_one] at e2
  have e3 : 0 ≤ q * lv := Int.mul_nonneg q0 lv0
  omega
 omega
end
theorem l0_pass {u v : List Int} {n : Nat} {q r o : Int} (hn : v.length = n + 2) (hl : u.length = n + 3) (ew : wrap64 (((n + 2 : Nat) : Int) - 2) = ((n : Nat) : Int)) (q0 : 0 ≤ q) (q1 : q < B64) (w0 : 0 ≤ rd v (n : Int)) (w1 : rd v (n : Int) < B64) (t0 : 0 ≤ rd u (n : Int)) (t1 : rd u (n : Int) < B64)
  (h : o = 1 ∨ o = 0 ∧ q * rd v (n : Int) ≤ B64 * r + rd u (n : Int)) (k : Nat) : exact_step.l0 (k + 1) u v ((n + 2 : Nat) : Int) q r o = exact_step.j2 k u v ((n + 2 : Nat) : Int) q := by
 rcases h with rfl | ⟨rfl, h⟩
 ·simp only [exact_step.l0]
  rw [if_neg (show ¬ (1 : Int) = 0 by decide)]
 ·have c1 : (n : Int) < (v.length : Int) := by clear h ew; omega
  have c2 : (n : Int) < (u.length : Int) := by clear h ew; omega
  have t1' : rd u (n : Int) < 18446744073709551616 := t1
  have h' : q * rd v (n : Int) ≤ 18446744073709551616 * r + rd u (n : Int) := h
  have e := Int.emod_add_mul_ediv (q * rd v (n : Int)) 18446744073709551616
  have m0 := Int.emod_nonneg (q * rd v (n : Int)) (show (18446744073709551616 : Int) ≠ 0 by decide)
  have g : q * rd v (n : Int) / 18446744073709551616 < r ∨ q * rd v (n : Int) / 18446744073709551616 = r ∧ q * rd v (n : Int) % 18446744073709551616 ≤ rd u (n : Int) := by clear h ew; omega
  have a1 := mul64_eq q0 q1 w0 w1
  simp only [exact_step.l0, ew]
  rw [if_pos trivial, if_pos (Int.natCast_nonneg _), if_pos c1, a1, Option.bind_some]
  rcases g with g | ⟨g1, g2⟩
  ·rw [if_pos g]
  ·rw [if_neg (show ¬ q * rd v (n : Int) / 18446744073709551616 < r by clear h ew; omega), if_pos g1, if_pos c2, if_pos g2]
theorem l0_fail {u v : List Int} {n : Nat} {q r : Int} (hn : v.length = n + 2) (hl : u.length = n + 3) (ew : wrap64 (((n + 2 : Nat) : Int) - 2) = ((n : Nat) : Int)) (ew1 : wrap64 (((n + 2 : Nat) : Int) - 1) = ((n + 1 : Nat) : Int)) (q0 : 1 ≤ q) (q1 : q < B64) (r0 : 0 ≤ r) (w0 : 0 ≤ rd v (n : Int)) (w1 : rd v (n : Int) < B64) (t0 : 0 ≤ rd u (n : Int)) (t1 : rd u (n : Int) < B64) (y0 : 0 ≤ rd v ((n + 1 : Nat) : Int))
  (h : ¬ q * rd v (n : Int) ≤ B64 * r + rd u (n : Int)) (k : Nat) : exact_step.l0 (k + 1) u v ((n + 2 : Nat) : Int) q r 0 = exact_step.l0 k u v ((n + 2 : Nat) : Int) (q - 1) ((r + rd v ((n + 1 : Nat) : Int) + 0) % B64) ((r + rd v ((n + 1 : Nat) : Int) + 0) / B64) := by
 have c1 : (n : Int) < (v.length : Int) := by clear h ew ew1; omega
 have c2 : (n : Int) < (u.length : Int) := by clear h ew ew1; omega
 have c3 : ((n + 1 : Nat) : Int) < (v.length : Int) := by clear h ew ew1; omega
 have t1' : rd u (n : Int) < 18446744073709551616 := t1
 have q1' : q < 18446744073709551616 := q1
 have h' : ¬ q * rd v (n : Int) ≤ 18446744073709551616 * r + rd u (n : Int) := h
 have e := Int.emod_add_mul_ediv (q * rd v (n : Int)) 18446744073709551616
 have m0 := Int.emod_lt_of_pos (q * rd v (n : Int)) (show (0 : Int) < 18446744073709551616 by decide)
 have g1 : ¬ q * rd v (n : Int) / 18446744073709551616 < r := by clear h ew ew1; omega
 have g2 : q * rd v (n : Int) / 18446744073709551616 = r → ¬ q * rd v (n : Int) % 18446744073709551616 ≤ rd u (n : Int) := by clear h ew ew1; omega
 have a1 := mul64_eq (show 0 ≤ q by omega) q1 w0 w1
 have a2 := add64_eq r0 y0 (Int.le_refl 0) (by decide)
 have wq : IntKind.u64.wrap (q - 1) = q - 1 := by clear h h' ew ew1 g1 g2 e; exact u64 (by omega) (by omega)
 conv => lhs; simp only [exact_step.l0, ew, ew1, wq]
 rw [if_pos trivial, if_pos (Int.natCast_nonneg _), if_pos c1, a1, Option.bind_some, if_neg g1]
 by_cases g3 : q * rd v (n : Int) / 18446744073709551616 = r
 ·rw [if_pos g3, if_pos c2, if_neg (g2 g3), if_pos (Int.natCast_nonneg _), if_pos c3, a2, Option.bind_some]
 ·rw [if_neg g3, if_pos (Int.natCast_nonneg _), if_pos c3, a2, Option.bind_some]
theorem step_l0 {u v : List Int} {n : Nat} (hn : v.length = n + 2) (ln : n ≤ 1099511627000) (hu : Dig B64 u) (hv : Dig B64 v) (hl : u.length = n + 3) (ht : rd v ((n + 1 : Nat) : Int) ≠ 0) :
  ∀ (d : Nat) (q r o : Int), q = vB B64 u / vB B64 v + d → 0 ≤ q → q < B64 → 0 ≤ r → r < B64 → (o = 0 ∨ o = 1) → q * rd v ((n + 1 : Nat) : Int) + (r + B64 * o) = rd u ((n + 1 : Nat) : Int) + B64 * rd u ((n + 2 : Nat) : Int) →
  ∃ z, z.length = n + 3 ∧ Dig B64 z ∧ vB B64 z = vB B64 u % vB B64 v ∧ Ev (fun k => exact_step.l0 k u v ((n + 2 : Nat) : Int) q r o) (vB B64 u / vB B64 v, z) := by
 have hB : (0 : Int) < B64 := by decide
 obtain ⟨lv, lv0, lv1, eV⟩ := split2 hv hn
 obtain ⟨lu, lu0, lu1, eU⟩ := split3 hu hl
 have hP : (0 : Int) < B64 ^ n := Int.pow_pos hB
 obtain ⟨y0, y1⟩ := Dig_rd hv (n + 1) (by clear lv1 lu1 eV eU; omega)
 obtain ⟨w0, w1⟩ := Dig_rd hv n (by clear lv1 lu1 eV eU; omega)
 obtain ⟨t0, t1⟩ := Dig_rd hu n (by clear lv1 lu1 eV eU; omega)
 have hW : B64 ≤ rd v (n : Int) + B64 * rd v ((n + 1 : Nat) : Int) := by
  have : B64 * 1 ≤ B64 * rd v ((n + 1 : Nat) : Int) := Int.mul_le_mul_of_nonneg_left (by clear lv1 lu1 eV eU; omega) (Int.le_of_lt hB)
  rw [Int.mul_one] at this
  clear lv1 lu1 eV eU; omega
 have hV0 : 0 < vB B64 v := by
  have : 0 < B64 ^ n * (rd v (n : Int) + B64 * rd v ((n + 1 : Nat) : Int)) := Int.mul_pos hP (Int.lt_of_lt_of_le hB hW)
  generalize B64 ^ n * (rd v (n : Int) + B64 * rd v ((n + 1 : Nat) : Int)) = A at *
  clear lv1 lu1 eU; omega
 have hQ0 : 0 ≤ vB B64 u / vB B64 v := Int.ediv_nonneg (vB_nonneg (Int.le_of_lt hB) hu) (Int.le_of_lt hV0)
 have ew : wrap64 (((n + 2 : Nat) : Int) - 2) = ((n : Nat) : Int) := by clear lv1 lu1 eV eU; rw [w64 (by omega) (by omega)]; omega
 have ew1 : wrap64 (((n + 2 : Nat) : Int) - 1) = ((n + 1 : Nat) : Int) := by clear lv1 lu1 eV eU ew; rw [w64 (by omega) (by omega)]; omega
 have done : ∀ q : Int, vB B64 u / vB B64 v ≤ q → 0 ≤ q → q < B64 → q * (rd v (n : Int) + B64 * rd v ((n + 1 : Nat) : Int)) ≤ rd u (n : Int) + B64 * (rd u ((n + 1 : Nat) : Int) + B64 * rd u ((n + 2 : Nat) : Int)) →
   ∃ z, z.length = n + 3 ∧ Dig B64 z ∧ vB B64 z = vB B64 u % vB B64 v ∧ Ev (fun k => exact_step.j2 k u v ((n + 2 : Nat) : Int) q) (vB B64 u / vB B64 v, z) := by
  intro q g1 q0 q1 g2
  have g3 := guess_le hP lv0 lv1 lu0 eV eU hW q0 q1 g2
  obtain ⟨z, z1, z2, z3, z4⟩ := step_l1 hn (by clear lv1 lu1 eV eU ew ew1; omega) hu hv hl hV0 q0 q1 g1 g3 (n + 2) 0 u 0 0 (Nat.zero_add _) ⟨rfl, hu, ⟨by decide, by decide⟩, ⟨by decide, hB⟩, by simp [vB]⟩
  exact ⟨z, z1, z2, z3, Ev.step (f := fun k => exact_step.l1 k u v ((n + 2 : Nat) : Int) q 0 0 ((n + 2 : Nat) : Int) ((0 : Nat) : Int)) (fun k => rfl) z4⟩
 have test : ∀ q r : Int, q * rd v ((n + 1 : Nat) : Int) + r = rd u ((n + 1 : Nat) : Int) + B64 * rd u ((n + 2 : Nat) : Int) → (q * rd v (n : Int) ≤ B64 * r + rd u (n : Int) ↔ q * (rd v (n : Int) + B64 * rd v ((n + 1 : Nat) : Int)) ≤ rd u (n : Int) + B64 * (rd u ((n + 1 : Nat) : Int) + B64 * rd u ((n + 2 : Nat) : Int))) := by
  intro q r he
  rw [← he, Int.mul_add q, Int.mul_left_comm q B64, Int.mul_add B64]
  generalize q * rd v ((n + 1 : Nat) : Int) = a
  generalize q * rd v (n : Int) = b
  clear lv1 lu1 eV eU ew ew1
  omega
 intro d
 induction d with
 | zero =>
  intro q r o hq q0 q1 r0 r1 ho he
  have hq : vB B64 u / vB B64 v = q := by omega
  have hle : q * rd v (n : Int) ≤ B64 * (r + B64 * o) + rd u (n : Int) := by
   rw [test q (r + B64 * o) he]
   rcases Int.lt_or_le (rd u (n : Int) + B64 * (rd u ((n + 1 : Nat) : Int) + B64 * rd u ((n + 2 : Nat) : Int))) (q * (rd v (n : Int) + B64 * rd v ((n + 1 : Nat) : Int))) with h | h
   ·have := guess_gt hP lv0 lu1 eV eU hV0 q0 h
    omega
   ·exact h
  obtain ⟨z, z1, z2, z3, z4⟩ := done q (by omega) q0 q1 ((test q _ he).1 hle)
  refine ⟨z, z1, z2, z3, Ev.step (fun k => l0_pass hn hl ew q0 q1 w0 w1 t0 t1 ?_ k) z4⟩
  rcases ho with rfl | rfl
  ·right
   rw [Int.mul_zero, Int.add_zero] at hle
   exact ⟨rfl, hle⟩
  ·exact Or.inl rfl
 | succ d ih =>
  intro q r o hq q0 q1 r0 r1 ho he
  by_cases hp : o = 1 ∨ o = 0 ∧ q * rd v (n : Int) ≤ B64 * r + rd u (n : Int)
  ·have hle : q * rd v (n : Int) ≤ B64 * (r + B64 * o) + rd u (n : Int) := by
    rcases hp with rfl | ⟨rfl, h⟩
    ·have q1' : q < 18446744073709551616 := q1
     have w1' : rd v (n : Int) < 18446744073709551616 := w1
     have h1 := mul_range q0 (show q ≤ 18446744073709551615 by omega) w0 (show rd v (n : Int) ≤ 18446744073709551615 by omega)
     have h2 : (18446744073709551615 : Int) * 18446744073709551615 = 340282366920938463426481119284349108225 := rfl
     have h3 : (B64 : Int) * (B64 * 1) = 340282366920938463463374607431768211456 := rfl
     rw [h2] at h1
     rw [Int.mul_add, h3]
     have h4 : 0 ≤ B64 * r := Int.mul_nonneg (by decide) r0
     clear lv1 lu1 eV eU ew ew1
     omega
    ·rw [Int.mul_zero, Int.add_zero]
     exact h
   obtain ⟨z, z1, z2, z3, z4⟩ := done q (by omega) q0 q1 ((test q _ he).1 hle)
   exact ⟨z, z1, z2, z3, Ev.step (fun k => l0_pass hn hl ew q0 q1 w0 w1 t0 t1 hp k) z4⟩
  ·have ho : o = 0 := by
    rcases ho with h | h
    ·exact h
    ·exact absurd (Or.inl h) hp
   subst ho
   have hp' : ¬ q * rd v (n : Int) ≤ B64 * r + rd u (n : Int) := fun h => hp (Or.inr ⟨rfl, h⟩)
   have hov := add_range r0 r1 y0 y1 (Int.le_refl 0) (by decide)
   have he2 := Int.emod_add_mul_ediv (r + rd v ((n + 1 : Nat) : Int) + 0) B64
   obtain ⟨z, z1, z2, z3, z4⟩ := ih (q - 1) ((r + rd v ((n + 1 : Nat) : Int) + 0) % B64) ((r + rd v ((n + 1 : Nat) : Int) + 0) / B64) (by omega) (by omega) (by omega) (Int.emod_nonneg _ (by decide)) (Int.emod_lt_of_pos _ hB) (by omega) (by
    rw [he2, Int.sub_mul, Int.one_mul]
    rw [Int.mul_zero] at he
    clear lv1 lu1 eV eU ew ew1 hp hp' hov he2
    omega)
   exact ⟨z, z1, z2, z3, Ev.step (fun k => l0_fail hn hl ew ew1 (by omega) q1 r0 w0 w1 t0 t1 y0 hp' k) z4⟩
theorem step_ev {u v : List Int} {n : Nat} (hn : v.length = n + 2) (ln : n ≤ 1099511627000) (hu : Dig B64 u) (hv : Dig B64 v) (hl : u.length = n + 3) (ht : rd v ((n + 1 : Nat) : Int) ≠ 0) (hlt : vB B64 u < vB B64 v * B64) :
  ∃ z, z.length = n + 3 ∧ Dig B64 z ∧ vB B64 z = vB B64 u % vB B64 v ∧ Ev (fun k => exact_step.f k u v) (vB B64 u / vB B64 v, z) := by
 have hB : (0 : Int) < B64 := by decide
 obtain ⟨lv, lv0, lv1, eV⟩ := split2 hv hn
 obtain ⟨lu, lu0, lu1, eU⟩ := split3 hu hl
 have hP : (0 : Int) < B64 ^ n := Int.pow_pos hB
 obtain ⟨y0, y1⟩ := Dig_rd hv (n + 1) (by clear lv1 lu1 eV eU; omega)
 obtain ⟨w0, w1⟩ := Dig_rd hv n (by clear lv1 lu1 eV eU; omega)
 obtain ⟨t0, t1⟩ := Dig_rd hu n (by clear lv1 lu1 eV eU; omega)
 obtain ⟨p0, p1⟩ := Dig_rd hu (n + 1) (by clear lv1 lu1 eV eU; omega)
 obtain ⟨x0, x1⟩ := Dig_rd hu (n + 2) (by clear lv1 lu1 eV eU; omega)
 have y2 : 1 ≤ rd v ((n + 1 : Nat) : Int) := by clear lv1 lu1 eV eU; omega
 have hW : B64 ≤ rd v (n : Int) + B64 * rd v ((n + 1 : Nat) : Int) := by
  have : B64 * 1 ≤ B64 * rd v ((n + 1 : Nat) : Int) := Int.mul_le_mul_of_nonneg_left y2 (Int.le_of_lt hB)
  rw [Int.mul_one] at this
  clear lv1 lu1 eV eU; omega
 have hV0 : 0 < vB B64 v := by
  have : 0 < B64 ^ n * (rd v (n : Int) + B64 * rd v ((n + 1 : Nat) : Int)) := Int.mul_pos hP (Int.lt_of_lt_of_le hB hW)
  generalize B64 ^ n * (rd v (n : Int) + B64 * rd v ((n + 1 : Nat) : Int)) = A at *
  clear lv1 lu1 eU; omega
 have hQ0 : 0 ≤ vB B64 u / vB B64 v := Int.ediv_nonneg (vB_nonneg (Int.le_of_lt hB) hu) (Int.le_of_lt hV0)
 have hQ1 : vB B64 u / vB B64 v < B64 := Int.ediv_lt_of_lt_mul hV0 (by rw [Int.mul_comm]; exact hlt)
 have hX : (vB B64 u / vB B64 v) * rd v ((n + 1 : Nat) : Int) ≤ rd u ((n + 1 : Nat) : Int) + B64 * rd u ((n + 2 : Nat) : Int) := by
  have h1 := Int.ediv_mul_le (vB B64 u) (show vB B64 v ≠ 0 by clear lv1 lu1 eV eU; omega)
  generalize vB B64 u / vB B64 v = Q at *
  rw [eV, eU] at h1
  have e1 : Q * (lv + B64 ^ n * (rd v (n : Int) + B64 * rd v ((n + 1 : Nat) : Int))) = Q * lv + Q * (B64 ^ n * rd v (n : Int)) + B64 ^ n * (B64 * (Q * rd v ((n + 1 : Nat) : Int))) := by
   rw [Int.mul_add Q, Int.mul_add (B64 ^ n), Int.mul_add Q, Int.mul_left_comm Q (B64 ^ n) (B64 * _), Int.mul_left_comm Q B64, Int.add_assoc]
  rw [e1] at h1
  have h2 : 0 ≤ Q * lv := Int.mul_nonneg hQ0 lv0
  have h3 : 0 ≤ Q * (B64 ^ n * rd v (n : Int)) := Int.mul_nonneg hQ0 (Int.mul_nonneg (Int.le_of_lt hP) w0)
  rcases Int.lt_or_le (rd u ((n + 1 : Nat) : Int) + B64 * rd u ((n + 2 : Nat) : Int)) (Q * rd v ((n + 1 : Nat) : Int)) with h | h
  ·exfalso
   have h4 : B64 * (rd u ((n + 1 : Nat) : Int) + B64 * rd u ((n + 2 : Nat) : Int) + 1) ≤ B64 * (Q * rd v ((n + 1 : Nat) : Int)) := Int.mul_le_mul_of_nonneg_left (by clear lv1 lu1 eV eU h1 e1; omega) (Int.le_of_lt hB)
   have h5 := Int.mul_le_mul_of_nonneg_left h4 (Int.le_of_lt hP)
   have h6 : B64 ^ n * (rd u (n : Int) + 1) ≤ B64 ^ n * B64 := Int.mul_le_mul_of_nonneg_left (by clear lv1 lu1 eV eU h1 e1 h5; omega) (Int.le_of_lt hP)
   rw [Int.mul_add B64, Int.mul_one, Int.mul_add (B64 ^ n)] at h5
   rw [Int.mul_add (B64 ^ n) (rd u (n : Int)), Int.mul_one] at h6
   rw [Int.mul_add (B64 ^ n) (rd u (n : Int))] at h1
   generalize B64 ^ n * (B64 * (rd u ((n + 1 : Nat) : Int) + B64 * rd u ((n + 2 : Nat) : Int))) = A at *
   generalize B64 ^ n * (B64 * (Q * rd v ((n + 1 : Nat) : Int))) = A1 at *
   generalize B64 ^ n * rd u (n : Int) = A2 at *
   generalize B64 ^ n * B64 = A3 at *
   generalize (B64 : Int) ^ n = P at *
   clear eV eU e1 hV0 hQ1
   omega
  ·exact h
 have ew1 : wrap64 (((n + 2 : Nat) : Int) - 1) = ((n + 1 : Nat) : Int) := by clear lv1 lu1 eV eU; rw [w64 (by omega) (by omega)]; omega
 have c1 : ((n + 2 : Nat) : Int) < (u.length : Int) := by clear lv1 lu1 eV eU ew1; omega
 have c2 : ((n + 1 : Nat) : Int) < (v.length : Int) := by clear lv1 lu1 eV eU ew1; omega
 have c3 : ((n + 1 : Nat) : Int) < (u.length : Int) := by clear lv1 lu1 eV eU ew1; omega
 have ev : (v.length : Int) = ((n + 2 : Nat) : Int) := by clear lv1 lu1 eV eU ew1; omega
 by_cases hc : rd u ((n + 2 : Nat) : Int) ≥ rd v ((n + 1 : Nat) : Int)
 ·
  have heq : rd u ((n + 2 : Nat) : Int) = rd v ((n + 1 : Nat) : Int) := by
   rcases Int.lt_or_le (rd v ((n + 1 : Nat) : Int)) (rd u ((n + 2 : Nat) : Int)) with h | h
   ·exfalso
    have g1 : B64 * (rd v ((n + 1 : Nat) : Int) + 1) ≤ B64 * rd u ((n + 2 : Nat) : Int) := Int.mul_le_mul_of_nonneg_left (by clear lv1 lu1 eV eU; omega) (Int.le_of_lt hB)
    rw [Int.mul_add, Int.mul_one] at g1
    have g2 : rd v (n : Int) + B64 * rd v ((n + 1 : Nat) : Int) + 1 ≤ rd u ((n + 1 : Nat) : Int) + B64 * rd u ((n + 2 : Nat) : Int) := by clear lv1 lu1 eV eU; omega
    have g3 : B64 * (rd v (n : Int) + B64 * rd v ((n + 1 : Nat) : Int) + 1) ≤ B64 * (rd u ((n + 1 : Nat) : Int) + B64 * rd u ((n + 2 : Nat) : Int)) := Int.mul_le_mul_of_nonneg_left g2 (Int.le_of_lt hB)
    have g4 := Int.mul_le_mul_of_nonneg_left g3 (Int.le_of_lt hP)
    rw [eV, eU, Int.add_mul, Int.mul_add (B64 ^ n) (rd u (n : Int))] at hlt
    have g5 : 0 ≤ B64 ^ n * rd u (n : Int) := Int.mul_nonneg (Int.le_of_lt hP) t0
    have g6 : lv * B64 < B64 ^ n * B64 := Int.mul_lt_mul_of_pos_right lv1 hB
    rw [Int.mul_add B64, Int.mul_one, Int.mul_add (B64 ^ n)] at g4
    have e2 : B64 ^ n * (rd v (n : Int) + B64 * rd v ((n + 1 : Nat) : Int)) * B64 = B64 ^ n * (B64 * (rd v (n : Int) + B64 * rd v ((n + 1 : Nat) : Int))) := by rw [Int.mul_assoc, Int.mul_comm _ B64]
    rw [e2] at hlt
    generalize B64 ^ n * (B64 * (rd u ((n + 1 : Nat) : Int) + B64 * rd u ((n + 2 : Nat) : Int))) = A at *
    generalize B64 ^ n * (B64 * (rd v (n : Int) + B64 * rd v ((n + 1 : Nat) : Int))) = A1 at *
    generalize B64 ^ n * rd u (n : Int) = A2 at *
    generalize B64 ^ n * B64 = A3 at *
    generalize lv * B64 = A4 at *
    clear eV eU e2 hV0 hQ1 hX lv1 lu1
    omega
   ·clear lv1 lu1 eV eU; omega
  have a2 := add64_eq p0 y0 (Int.le_refl 0) (by decide)
  have hov := add_range p0 p1 y0 y1 (Int.le_refl 0) (by decide)
  have he2 := Int.emod_add_mul_ediv (rd u ((n + 1 : Nat) : Int) + rd v ((n + 1 : Nat) : Int) + 0) B64
  have hd : (18446744073709551615 : Int) = vB B64 u / vB B64 v + ((18446744073709551615 - vB B64 u / vB B64 v).toNat : Nat) := by
   have : vB B64 u / vB B64 v < 18446744073709551616 := hQ1
   clear lv1 lu1 eV eU; omega
  obtain ⟨z, z1, z2, z3, z4⟩ := step_l0 hn ln hu hv hl ht _ 18446744073709551615 _ _ hd (by decide) (by decide) (Int.emod_nonneg _ (by decide)) (Int.emod_lt_of_pos _ hB) (show (rd u ((n + 1 : Nat) : Int) + rd v ((n + 1 : Nat) : Int) + 0) / B64 = 0 ∨ (rd u ((n + 1 : Nat) : Int) + rd v ((n + 1 : Nat) : Int) + 0) / B64 = 1 by clear lv1 lu1 eV eU; omega) (by
   rw [he2, heq]
   show 18446744073709551615 * rd v ((n + 1 : Nat) : Int) + (rd u ((n + 1 : Nat) : Int) + rd v ((n + 1 : Nat) : Int) + 0) = rd u ((n + 1 : Nat) : Int) + 18446744073709551616 * rd v ((n + 1 : Nat) : Int)
   clear lv1 lu1 eV eU; omega)
  refine ⟨z, z1, z2, z3, Ev.congr (fun k => ?_) (Ev.step (f := _) (fun k => rfl) z4 : Ev (fun k => exact_step.j0 k u v ((n + 2 : Nat) : Int) 18446744073709551615 ((rd u ((n + 1 : Nat) : Int) + rd v ((n + 1 : Nat) : Int) + 0) % B64) ((rd u ((n + 1 : Nat) : Int) + rd v ((n + 1 : Nat) : Int) + 0) / B64)) _)⟩
  unfold exact_step.f
  rw [ev, ew1, if_pos (Int.natCast_nonneg _), if_pos c1, if_pos (Int.natCast_nonneg _), if_pos (by rw [← ev]; exact c2), if_pos hc, if_pos c3, a2, Option.bind_some]
 ·have hq := div64_ev x0 (show rd u ((n + 2 : Nat) : Int) < rd v ((n + 1 : Nat) : Int) by clear lv1 lu1 eV eU; omega) y1 p0 p1
  have hyp : 0 < rd v ((n + 1 : Nat) : Int) := by clear lv1 lu1 eV eU; omega
  have g := Int.emod_add_mul_ediv (rd u ((n + 2 : Nat) : Int) * B64 + rd u ((n + 1 : Nat) : Int)) (rd v ((n + 1 : Nat) : Int))
  have r0 := Int.emod_nonneg (rd u ((n + 2 : Nat) : Int) * B64 + rd u ((n + 1 : Nat) : Int)) (show rd v ((n + 1 : Nat) : Int) ≠ 0 from ht)
  have r1 := Int.emod_lt_of_pos (rd u ((n + 2 : Nat) : Int) * B64 + rd u ((n + 1 : Nat) : Int)) hyp
  have q0 : 0 ≤ (rd u ((n + 2 : Nat) : Int) * B64 + rd u ((n + 1 : Nat) : Int)) / rd v ((n + 1 : Nat) : Int) := Int.ediv_nonneg (Int.add_nonneg (Int.mul_nonneg x0 (Int.le_of_lt hB)) p0) (Int.le_of_lt hyp)
  have q1 : (rd u ((n + 2 : Nat) : Int) * B64 + rd u ((n + 1 : Nat) : Int)) / rd v ((n + 1 : Nat) : Int) < B64 := Int.ediv_lt_of_lt_mul hyp (by
   have h1 := Int.mul_le_mul_of_nonneg_right (show rd u ((n + 2 : Nat) : Int) + 1 ≤ rd v ((n + 1 : Nat) : Int) by clear lv1 lu1 eV eU; omega) (Int.le_of_lt hB)
   rw [Int.add_mul, Int.one_mul, Int.mul_comm (rd v _)] at h1
   clear lv1 lu1 eV eU; omega)
  have hQq : vB B64 u / vB B64 v ≤ (rd u ((n + 2 : Nat) : Int) * B64 + rd u ((n + 1 : Nat) : Int)) / rd v ((n + 1 : Nat) : Int) := Int.le_ediv_of_mul_le hyp (by rw [Int.mul_comm (rd u _) B64, Int.add_comm]; exact hX)
  obtain ⟨z, z1, z2, z3, z4⟩ := step_l0 hn ln hu hv hl ht ((rd u ((n + 2 : Nat) : Int) * B64 + rd u ((n + 1 : Nat) : Int)) / rd v ((n + 1 : Nat) : Int) - vB B64 u / vB B64 v).toNat ((rd u ((n + 2 : Nat) : Int) * B64 + rd u ((n + 1 : Nat) : Int)) / rd v ((n + 1 : Nat) : Int)) ((rd u ((n + 2 : Nat) : Int) * B64 + rd u ((n + 1 : Nat) : Int)) % rd v ((n + 1 : Nat) : Int)) 0 (by clear lv1 lu1 eV eU; omega) q0 q1 r0 (Int.lt_trans r1 y1) (Or.inl rfl) (by
   rw [Int.mul_zero, Int.add_zero, Int.mul_comm]
   rw [Int.mul_comm (rd u _) B64] at g ⊢
   clear lv1 lu1 eV eU; omega)
  refine ⟨z, z1, z2, z3, Ev.congr (f := fun k => (bits_Div64.f k (rd u ((n + 2 : Nat) : Int)) (rd u ((n + 1 : Nat) : Int)) (rd v ((n + 1 : Nat) : Int))).bind fun bt => exact_step.j0 k u v ((n + 2 : Nat) : Int) bt.1 bt.2 0) (fun k => ?_) (Ev.bind hq (Ev.step (f := _) (fun k => rfl) z4))⟩
  unfold exact_step.f
  rw [ev, ew1, if_pos (Int.natCast_nonneg _), if_pos c1, if_pos (Int.natCast_nonneg _), if_pos (by rw [← ev]; exact c2), if_neg hc, if_pos c3]
end Go.Proofs.YtdhdfcjpeflinaaN
set_option linter.unusedVariables false
namespace Go.Proofs.YtdhdfcjpeflinaaN
open Go.RowKit Go.Proofs.Ytdhdfcjpeflinaa.All Go.Proofs.YtdhdfcjpeflinaaW.PrintWords Go.Proofs.YtdhdfcjpeflinaaW.PrintLast Go.Proofs.YtdhdfcjpeflinaaW.PrintMore
theorem drop_succ (B : Int) (l : List Int) (i : Nat) (h : i < l.length) : vB B (l.drop i) = rd l (i : Int) + B * vB B (l.drop (i + 1)) := by
 rw [List.drop_eq_getElem_cons h, vB_cons, rd_get l i h]
theorem drop_set (l : List Int) (i : Nat) (x : Int) : (l.set i x).drop (i + 1) = l.drop (i + 1) := by
 apply List.ext_getElem?
 intro j
 rw [List.getElem?_drop, List.getElem?_drop, List.getElem?_set_ne (by omega)]
theorem vB_far (B : Int) {l : List Int} {n : Nat} (h : l.length ≤ n) : vB B (l.drop n) = 0 := by rw [List.drop_of_length_le h]; rfl
theorem divide_l0 {a b : List Int} {y : Int} (ha : Dig B64 a) (la : a.length ≤ 1099511627776) (hb : b.length = 1) (hy : rd b 0 = y) (y0 : 0 < y) (y1 : y < B64) {m n : Nat} (hm : vB B64 a = m) (hn : y = n) : ∀ (i : Nat) (q : List Int) (r : Int), i ≤ a.length → q.length = a.length → Dig B64 q → 0 ≤ r → r < y → vB B64 (a.drop i) = y * vB B64 (q.drop i) + r →
  Ev (fun k => exact_divide.l0 k a b q r ((i : Int) - 1)) (d64 (m / n), d64 (m % n)) := by
 intro i
 induction i with
 | zero =>
  intro q r _ hl hd r0 r1 hv
  rw [List.drop_zero, List.drop_zero, hm, hn] at hv
  have hq0 := vB_nonneg (by decide) hd
  have e1 : (vB B64 q).toNat = m / n := by
   have : (vB B64 q) = ((m / n : Nat) : Int) := by
    rw [Int.natCast_ediv, hv, Int.add_comm, Int.add_mul_ediv_left _ _ (by omega), Int.ediv_eq_zero_of_lt r0 (by omega), Int.zero_add]
   rw [this, Int.toNat_natCast]
  have e2 : (vB B64 [r]).toNat = m % n := by
   have : (vB B64 [r]) = ((m % n : Nat) : Int) := by
    rw [Int.natCast_emod, hv, Int.add_comm, Int.add_mul_emod_self_left, Int.emod_eq_of_lt r0 (by omega)]
    simp [vB]
   rw [this, Int.toNat_natCast]
  have t1 := trim_ev hd (by omega)
  have t2 := trim_ev (l := [r]) (Dig_cons.2 ⟨⟨r0, Int.lt_trans r1 y1⟩, Dig_nil _⟩) (by simp)
  rw [e1] at t1
  rw [e2] at t2
  refine Ev.step (f := fun k => (exact_trim.f k q).bind fun t173 => ((exact_trim.f k [r]).bind fun t179 => some (t173, t179))) (fun k => ?_) (Ev.bind t1 (Ev.bind (f := fun _ t179 => some (d64 (m / n), t179)) t2 (Ev.now _)))
  simp only [exact_divide.l0]
  rw [if_neg (by decide)]
 | succ i ih =>
  intro q r hi hl hd r0 r1 hv
  have hi' : i < a.length := by omega
  obtain ⟨x0, x1⟩ := Dig_rd ha i hi'
  have hdv := div64_ev r0 r1 y1 x0 x1
  have g := Int.emod_add_mul_ediv (r * B64 + rd a (i : Int)) y
  have g0 := Int.emod_nonneg (r * B64 + rd a (i : Int)) (show y ≠ 0 by omega)
  have g1 := Int.emod_lt_of_pos (r * B64 + rd a (i : Int)) y0
  have d0 : 0 ≤ (r * B64 + rd a (i : Int)) / y := Int.ediv_nonneg (Int.add_nonneg (Int.mul_nonneg r0 (by decide)) x0) (by omega)
  have d1 : (r * B64 + rd a (i : Int)) / y < B64 := Int.ediv_lt_of_lt_mul y0 (by
   have h1 := Int.mul_le_mul_of_nonneg_right (show r + 1 ≤ y by omega) (show (0 : Int) ≤ B64 by decide)
   rw [Int.add_mul, Int.one_mul, Int.mul_comm y] at h1
   omega)
  have e0 : ((i + 1 : Nat) : Int) - 1 = (i : Int) := by omega
  have e1 : wrap64 ((i : Int) - 1) = (i : Int) - 1 := w64 (by omega) (by omega)
  have c1 : (i : Int) ≥ 0 := by omega
  have c2 : (i : Int) < (a.length : Int) := by omega
  have c3 : (0 : Int) < (b.length : Int) := by omega
  have c4 : (i : Int) < (q.length : Int) := by omega
  rw [e0]
  refine Ev.step (f := fun k => (bits_Div64.f k r (rd a (i : Int)) y).bind fun bt170 => exact_divide.l0 k a b (q.set i bt170.1) bt170.2 ((i : Int) - 1)) (fun k => ?_) (Ev.bind hdv (ih _ _ (by omega) (by rw [List.length_set]; exact hl) (Dig_set hd _ d0 d1) g0 g1 ?_))
  ·simp only [exact_divide.l0, e1]
   rw [if_pos c1, if_pos c1, if_pos c2, if_pos c3, hy]
   simp only [if_pos c4, Int.toNat_natCast]
  ·show vB B64 (a.drop i) = y * vB B64 ((q.set i ((r * B64 + rd a (i : Int)) / y)).drop i) + (r * B64 + rd a (i : Int)) % y
   rw [drop_succ B64 a i hi', drop_succ B64 (q.set i ((r * B64 + rd a (i : Int)) / y)) i (by rw [List.length_set]; omega), rd_set_self _ _ _ (by omega), drop_set, hv]
   rw [Int.mul_add B64, Int.mul_add y, Int.mul_left_comm y B64]
   rw [Int.mul_comm r B64] at *
   generalize y * ((B64 * r + rd a (i : Int)) / y) = A at *
   generalize (B64 * r + rd a (i : Int)) % y = A2 at *
   generalize B64 * (y * vB B64 (q.drop (i + 1))) = A3 at *
   generalize B64 * r = A4 at *
   clear hdv hv
   omega
def Down (u z : List Int) (s i : Nat) : Prop :=
 z.length = u.length ∧ Dig B64 z ∧ (∀ j : Nat, i ≤ j → rd z (j : Int) = rd u (j : Int)) ∧ 2 ^ s * vB B64 (z.take i) = vB B64 (u.take i) + B64 ^ i * (rd u (i : Int) % 2 ^ s)
theorem word_down {x y : Int} (x0 : 0 ≤ x) (x1 : x < B64) (y0 : 0 ≤ y) (y1 : y < B64) (s : Nat) (hs : s ≤ 63) : 2 ^ s * (x / 2 ^ s + (y * 2 ^ (64 - s)) % B64) = x - x % 2 ^ s + B64 * (y % 2 ^ s) ∧ (y * 2 ^ (64 - s)) % B64 % 2 ^ (64 - s) = 0 ∧ x / 2 ^ s < 2 ^ (64 - s) ∧ 0 ≤ x / 2 ^ s ∧ x / 2 ^ s + (y * 2 ^ (64 - s)) % B64 < B64 := by
 have hP : (0 : Int) < 2 ^ s := Int.pow_pos (by decide)
 have hR : (0 : Int) < 2 ^ (64 - s) := Int.pow_pos (by decide)
 have hPR : (2 : Int) ^ s * 2 ^ (64 - s) = B64 := by
  rw [← Int.pow_add]
  have : s + (64 - s) = 64 := by omega
  rw [this]
  rfl
 have g := Int.emod_add_mul_ediv y (2 ^ s)
 have g0 := Int.emod_nonneg y (show (2 : Int) ^ s ≠ 0 by omega)
 have g1 := Int.emod_lt_of_pos y hP
 have g2 : y * 2 ^ (64 - s) = y % 2 ^ s * 2 ^ (64 - s) + B64 * (y / 2 ^ s) := by
  conv => lhs; rw [← g]
  rw [Int.add_mul, Int.mul_right_comm, hPR]
 have g3 : 0 ≤ y % 2 ^ s * 2 ^ (64 - s) := Int.mul_nonneg g0 (Int.le_of_lt hR)
 have g4 : y % 2 ^ s * 2 ^ (64 - s) + 2 ^ (64 - s) ≤ B64 := by
  have := Int.mul_le_mul_of_nonneg_right (show y % 2 ^ s + 1 ≤ 2 ^ s by omega) (Int.le_of_lt hR)
  rwa [hPR, Int.add_mul, Int.one_mul] at this
 have g5 : (y * 2 ^ (64 - s)) % B64 = y % 2 ^ s * 2 ^ (64 - s) := by
  rw [g2, Int.add_mul_emod_self_left, Int.emod_eq_of_lt g3 (by omega)]
 have k1 := Int.emod_add_mul_ediv x (2 ^ s)
 have k2 : x / 2 ^ s < 2 ^ (64 - s) := Int.ediv_lt_of_lt_mul hP (by rw [Int.mul_comm, hPR]; exact x1)
 refine ⟨?_, by rw [g5]; exact Int.mul_emod_left _ _, k2, Int.ediv_nonneg x0 (Int.le_of_lt hP), by rw [g5]; omega⟩
 rw [g5, Int.mul_add, Int.mul_left_comm (2 ^ s) (y % 2 ^ s), hPR, Int.mul_comm (y % 2 ^ s)]
 omega
theorem down_step {u z : List Int} {s i : Nat} (hs : s ≤ 63) (hu : Dig B64 u) (hi : i + 1 < u.length) (h : Down u z s i) : Down u (z.set i (rd u (i : Int) / 2 ^ s + (rd u ((i + 1 : Nat) : Int) * 2 ^ (64 - s)) % B64)) s (i + 1) := by
 obtain ⟨hl, hd, hr, hv⟩ := h
 obtain ⟨x0, x1⟩ := Dig_rd hu i (by omega)
 obtain ⟨y0, y1⟩ := Dig_rd hu (i + 1) hi
 obtain ⟨a1, a2, a3, a4, a5⟩ := word_down x0 x1 y0 y1 s hs
 have a6 := Int.emod_nonneg (rd u ((i + 1 : Nat) : Int) * 2 ^ (64 - s)) (show (B64 : Int) ≠ 0 by decide)
 refine ⟨by rw [List.length_set]; exact hl, Dig_set hd _ (Int.add_nonneg a4 a6) a5, fun j hj => ?_, ?_⟩
 ·rw [rd_set_ne _ _ _ _ (by omega)]
  exact hr j (by omega)
 ·rw [take_succ, take_succ, rd_set_self _ _ _ (by omega), List.take_set_of_le (Nat.le_refl _), Int.mul_add, hv, Int.mul_left_comm (2 ^ s), a1, Int.pow_succ, Int.mul_assoc (B64 ^ i) B64, Int.mul_add (B64 ^ i), Int.mul_sub]
  generalize B64 ^ i * (rd u (i : Int) % 2 ^ s) = A
  generalize B64 ^ i * rd u (i : Int) = A1
  generalize B64 ^ i * (B64 * (rd u ((i + 1 : Nat) : Int) % 2 ^ s)) = A2
  omega
end Go.Proofs.YtdhdfcjpeflinaaN
set_option linter.unusedVariables false
namespace Go.Proofs.YtdhdfcjpeflinaaN
open Go.RowKit Go.Proofs.Ytdhdfcjpeflinaa.All Go.Proofs.YtdhdfcjpeflinaaW.PrintWords Go.Proofs.YtdhdfcjpeflinaaW.PrintLast Go.Proofs.YtdhdfcjpeflinaaW.PrintMore
theorem divide_l2 {u q : List Int} {s N Q R : Nat} (hs : s ≤ 63) (hu : Dig B64 u) (hN : N + 1 ≤ u.length) (lu : u.length ≤ 1099511627780) (hq : Dig B64 q) (lq : q.length ≤ 1099511627780) (hQ : vB B64 q = Q) (hR : vB B64 (u.take N) + B64 ^ N * (rd u (N : Int) % 2 ^ s) = 2 ^ s * R) :
  ∀ (d i : Nat) (z : List Int), i + d = N → Down u z s i → Ev (fun k => exact_divide.l2 k (s : Int) z (N : Int) q (N : Int) (i : Int)) (d64 Q, d64 R) := by
 intro d
 induction d with
 | zero =>
  intro i z hi h
  have hi : i = N := by omega
  subst hi
  have hl := h.1
  have c1 : (i : Int) ≤ (z.length : Int) := by omega
  have lz : z.length < 9223372036854775808 := by omega
  have lz2 : (z.take i).length < 9223372036854775808 := by rw [List.length_take]; omega
  have lq2 : q.length < 9223372036854775808 := by omega
  obtain ⟨-, hd, -, hv⟩ := h
  rw [hR] at hv
  have hv' : vB B64 (z.take i) = R := Int.eq_of_mul_eq_mul_left (show (2 : Int) ^ s ≠ 0 from Int.ne_of_gt (Int.pow_pos (by decide))) hv
  have t1 := trim_ev hq lq2
  have t2 := trim_ev (Dig_take hd i) lz2
  rw [hQ, Int.toNat_natCast] at t1
  rw [hv', Int.toNat_natCast] at t2
  refine Ev.step (f := fun k => (exact_trim.f k q).bind fun t208 => (exact_trim.f k (z.take i)).bind fun t214 => some (t208, t214)) (fun k => ?_) (Ev.bind t1 (Ev.bind (f := fun _ t214 => some (d64 Q, t214)) t2 (Ev.now _)))
  simp only [exact_divide.l2]
  rw [if_neg (Int.lt_irrefl _)]
  simp only [if_pos c1, if_pos (Int.natCast_nonneg i), Int.toNat_natCast]
 | succ d ih =>
  intro i z hi h
  have hi' : i < N := by omega
  have c0 : i + 1 + d = N := by omega
  have hl := h.1
  have c1 : (i : Int) < (N : Int) := by omega
  have c2 : (i : Int) < (z.length : Int) := by omega
  have c3 : ((i + 1 : Nat) : Int) < (z.length : Int) := by omega
  have c4 : i < z.length := by omega
  have c5 : i + 1 < u.length := by omega
  have hn := down_step hs hu c5 h
  have e1 : wrap64 ((i : Int) + 1) = ((i + 1 : Nat) : Int) := by clear hR; rw [w64 (by omega) (by omega)]; omega
  have e2 : wrap64 (64 - (s : Int)) = ((64 - s : Nat) : Int) := by clear hR e1; rw [w64 (by omega) (by omega)]; omega
  have g0 := h.2.2.1 i (Nat.le_refl _)
  have g1 := h.2.2.1 (i + 1) (by clear hR e1 e2; omega)
  obtain ⟨x0, x1⟩ := Dig_rd hu i (by clear hR e1 e2; omega)
  obtain ⟨y0, y1⟩ := Dig_rd hu (i + 1) c5
  obtain ⟨a1, a2, a3, a4, a5⟩ := word_down x0 x1 y0 y1 s hs
  have a6 := Int.emod_nonneg (rd u ((i + 1 : Nat) : Int) * 2 ^ (64 - s)) (show (B64 : Int) ≠ 0 by decide)
  have a7 := Int.emod_lt_of_pos (rd u ((i + 1 : Nat) : Int) * 2 ^ (64 - s)) (show (0 : Int) < B64 by decide)
  have sh1 : shr .u64 (rd z (i : Int)) (s : Int) = rd u (i : Int) / 2 ^ s := by rw [g0]; exact shr_eq _ _ (by clear hR e1 e2 a1; omega)
  have sh2 : shl .u64 (rd u ((i + 1 : Nat) : Int)) ((64 - s : Nat) : Int) = (rd u ((i + 1 : Nat) : Int) * 2 ^ (64 - s)) % B64 := shl_eq _ _ (by clear hR e1 e2 a1; omega)
  have hor := bits_join2 (64 - s) (by clear hR e1 e2 a1; omega) a4 a3 a6 a7 a2 a5
  have r1 : rd (z.set i (rd u (i : Int) / 2 ^ s)) (i : Int) = rd u (i : Int) / 2 ^ s := rd_set_self _ _ _ c4
  have r2 : rd (z.set i (rd u (i : Int) / 2 ^ s)) ((i + 1 : Nat) : Int) = rd u ((i + 1 : Nat) : Int) := by rw [rd_set_ne _ _ _ _ (by clear hR e1 e2 a1; omega)]; exact g1
  refine Ev.step (fun k => ?_) (ih (i + 1) _ c0 hn)
  simp only [exact_divide.l2, e1, e2, sh1, Int.toNat_natCast, Option.bind_some]
  rw [if_pos c1, if_pos (Int.natCast_nonneg _), if_pos c2, if_pos (Int.natCast_nonneg _)]
  by_cases hs0 : (s : Int) > 0
  ·rw [if_pos hs0, if_pos c3, if_pos (Int.natCast_nonneg _), if_pos (Int.natCast_nonneg _), r1, r2, sh2, hor, List.set_set]
  ·rw [if_neg hs0]
   have hs1 : s = 0 := by clear hR e1 e2 a1; omega
   subst hs1
   have : (rd u ((i + 1 : Nat) : Int) * 2 ^ (64 - 0)) % B64 = 0 := Int.mul_emod_left _ _
   rw [this, Int.add_zero]
def Long (M V : Int) (L Lq : Nat) (u q : List Int) (J : Nat) : Prop :=
 u.length = L ∧ Dig B64 u ∧ q.length = Lq ∧ Dig B64 q ∧ vB B64 (u.drop J) < V ∧ M = vB B64 u + V * (B64 ^ J * vB B64 (q.drop J))
theorem long_step {M : Int} {L Lq N j : Nat} {u v q : List Int} (hv : Dig B64 v) (hN : v.length = N + 2) (ln : N ≤ 1099511627000) (ht : rd v ((N + 1 : Nat) : Int) ≠ 0) (hj : j + (N + 2) + 1 ≤ L) (hjq : j < Lq) (h : Long M (vB B64 v) L Lq u q (j + 1)) :
  ∃ d u', Long M (vB B64 v) L Lq u' (q.set j d) j ∧ Ev (fun k => exact_stepAt.f k u v (j : Int) ((j + (N + 2) + 1 : Nat) : Int)) (d, u') := by
 have hB : (0 : Int) < B64 := by decide
 obtain ⟨hl, hd, hlq, hdq, hlt, hM⟩ := h
 have hV1 := vB_lt hB hv
 rw [hN] at hV1
 have hVn := vB_nonneg (Int.le_of_lt hB) hv
 obtain ⟨w, hw⟩ : ∃ w, w = (u.take (j + (N + 2) + 1)).drop j := ⟨_, rfl⟩
 have hwl : w.length = N + 3 := by rw [hw, List.length_drop, List.length_take]; omega
 have hwd : Dig B64 w := by rw [hw]; exact Dig_drop (Dig_take hd _) _
 have hwt : w = (u.drop j).take (N + 3) := by rw [hw, List.drop_take]; congr 1; omega
 have hdl : (u.drop j).length = L - j := by rw [List.length_drop, hl]
 have s1 := vB_split B64 (u.drop j) (N + 3) (by omega)
 rw [← hwt, List.drop_drop] at s1
 have s2 := vB_split B64 (u.drop (j + 1)) (N + 2) (by rw [List.length_drop]; omega)
 rw [List.drop_drop, show j + 1 + (N + 2) = j + (N + 3) by omega] at s2
 have p1 := vB_nonneg (Int.le_of_lt hB) (Dig_take (Dig_drop hd (j + 1)) (N + 2))
 have p2 := vB_nonneg (Int.le_of_lt hB) (Dig_drop hd (j + (N + 3)))
 have hz : vB B64 (u.drop (j + (N + 3))) = 0 := by
  rcases Int.lt_or_le (vB B64 (u.drop (j + (N + 3)))) 1 with h | h
  ·clear hV1 s1 s2 hM hlt; omega
  ·exfalso
   have := Int.mul_le_mul_of_nonneg_left h (Int.le_of_lt (show (0 : Int) < B64 ^ (N + 2) from Int.pow_pos hB))
   rw [Int.mul_one] at this
   generalize (B64 : Int) ^ (N + 2) = P at *
   generalize P * vB B64 (u.drop (j + (N + 3))) = A at *
   clear hM s1
   omega
 rw [hz, Int.mul_zero, Int.add_zero] at s1
 have s3 := drop_succ B64 u j (by omega)
 obtain ⟨x0, x1⟩ := Dig_rd hd j (by omega)
 have hwlt : vB B64 w < vB B64 v * B64 := by
  rw [← s1, s3]
  have h1 := Int.mul_le_mul_of_nonneg_left (show vB B64 (u.drop (j + 1)) + 1 ≤ vB B64 v by clear hV1 s1 s2 hM s3; omega) (Int.le_of_lt hB)
  rw [Int.mul_add, Int.mul_one, Int.mul_comm B64 (vB B64 v)] at h1
  clear hV1 s1 s2 hM s3
  omega
 obtain ⟨z, z1, z2, z3, z4⟩ := step_ev hN ln hwd hv hwl ht hwlt
 have hV0 : 0 < vB B64 v := by
  rcases Int.lt_or_le 0 (vB B64 v) with h | h
  ·exact h
  ·exfalso
   have : vB B64 v = 0 := by clear hV1 s1 s2 hM s3 hwlt; omega
   rw [this, Int.zero_mul] at hwlt
   have := vB_nonneg (Int.le_of_lt hB) hwd
   clear hV1 s1 s2 hM s3; omega
 have q0 : 0 ≤ vB B64 w / vB B64 v := Int.ediv_nonneg (vB_nonneg (Int.le_of_lt hB) hwd) (Int.le_of_lt hV0)
 have q1 : vB B64 w / vB B64 v < B64 := Int.ediv_lt_of_lt_mul hV0 (by rw [Int.mul_comm]; exact hwlt)
 have hdm := Int.emod_add_mul_ediv (vB B64 w) (vB B64 v)
 have m1 := Int.emod_lt_of_pos (vB B64 w) hV0
 have htj : (u.take j).length = j := by rw [List.length_take]; omega
 have hdrop : (u.take j ++ z ++ u.drop (j + (N + 2) + 1)).drop j = z ++ u.drop (j + (N + 3)) := by
  rw [List.append_assoc, List.drop_append_of_le_length (by omega), List.drop_of_length_le (by omega), List.nil_append]
  rfl
 have hvz : vB B64 (z ++ u.drop (j + (N + 3))) = vB B64 z := by rw [vB_append, hz, Int.mul_zero, Int.add_zero]
 refine ⟨vB B64 w / vB B64 v, u.take j ++ z ++ u.drop (j + (N + 2) + 1), ⟨?_, Dig_append (Dig_append (Dig_take hd _) z2) (Dig_drop hd _), by rw [List.length_set]; exact hlq, Dig_set hdq _ q0 q1, ?_, ?_⟩, ?_⟩
 ·rw [List.length_append, List.length_append, htj, z1, List.length_drop]
  clear hV1 s1 s2 hM s3 hwlt hdm; omega
 ·rw [hdrop, hvz, z3]
  exact m1
 ·have t1 := vB_split B64 u j (by clear hV1 s1 s2 hM s3 hwlt hdm; omega)
  have t2 : vB B64 (u.take j ++ z ++ u.drop (j + (N + 2) + 1)) = vB B64 (u.take j) + B64 ^ j * vB B64 z := by
   rw [List.append_assoc, vB_append, htj]
   congr 2
  rw [t2, z3, drop_succ B64 (q.set j (vB B64 w / vB B64 v)) j (by rw [List.length_set, hlq]; exact hjq), rd_set_self _ _ _ (by rw [hlq]; exact hjq), drop_set, hM, t1, s1, Int.pow_succ]
  generalize vB B64 (u.take j) = A
  generalize vB B64 (q.drop (j + 1)) = C
  generalize vB B64 w / vB B64 v = D at *
  generalize vB B64 w % vB B64 v = E at *
  rw [← hdm]
  generalize vB B64 v = V
  generalize (B64 : Int) ^ j = P
  rw [Int.mul_add P E, Int.mul_add P D, Int.mul_add V (P * D), Int.mul_left_comm P V D, Int.mul_assoc P B64 C, Int.add_assoc, Int.add_assoc, Int.add_assoc]
 ·refine Ev.congr (f := fun k => (exact_step.f k w v).bind fun bt => some (bt.1, u.take j ++ bt.2 ++ u.drop (j + (N + 2) + 1))) (fun k => ?_) (Ev.bind z4 (Ev.now _))
  unfold exact_stepAt.f
  rw [Int.toNat_natCast, Int.toNat_natCast, ← hw]
theorem divide_l1 {M : Int} {L Lq N s Q R : Nat} {v : List Int} (hv : Dig B64 v) (hN : v.length = N + 2) (ln : N ≤ 1099511627000) (ht : rd v ((N + 1 : Nat) : Int) ≠ 0) (hs : s ≤ 63) (hL : L ≤ 1099511627780) (hLq : Lq + (N + 2) = L) (hLq1 : 1 ≤ Lq)
  (hQ : M / vB B64 v = Q) (hR : M % vB B64 v = 2 ^ s * R) : ∀ (J : Nat) (u q : List Int), J ≤ Lq → Long M (vB B64 v) L Lq u q J → Ev (fun k => exact_divide.l1 k (s : Int) v u ((N + 2 : Nat) : Int) q ((J : Int) - 1)) (d64 Q, d64 R) := by
 have hB : (0 : Int) < B64 := by decide
 have hV1 := vB_lt hB hv
 rw [hN] at hV1
 intro J
 induction J with
 | zero =>
  intro u q hJ h
  obtain ⟨hl, hd, hlq, hdq, hlt, hM⟩ := h
  rw [List.drop_zero] at hlt hM
  rw [Int.pow_zero, Int.one_mul] at hM
  have hu0 := vB_nonneg (Int.le_of_lt hB) hd
  have hV0 : vB B64 v ≠ 0 := by clear hV1; omega
  have eQ : vB B64 q = Q := by
   rw [← hQ, hM, Int.add_mul_ediv_left _ _ hV0, Int.ediv_eq_zero_of_lt hu0 hlt, Int.zero_add]
  have eR : vB B64 u = 2 ^ s * R := by
   rw [← hR, hM, Int.add_mul_emod_self_left, Int.emod_eq_of_lt hu0 hlt]
  have hNl : N + 2 + 1 ≤ u.length := by clear hV1 hlt hM; omega
  have s1 := vB_split B64 u (N + 2) (by clear hV1 hlt hM; omega)
  have p1 := vB_nonneg (Int.le_of_lt hB) (Dig_take hd (N + 2))
  have p2 := vB_nonneg (Int.le_of_lt hB) (Dig_drop hd (N + 2))
  have hz : vB B64 (u.drop (N + 2)) = 0 := by
   rcases Int.lt_or_le (vB B64 (u.drop (N + 2))) 1 with h | h
   ·clear hV1 s1 hM hlt; omega
   ·exfalso
    have := Int.mul_le_mul_of_nonneg_left h (Int.le_of_lt (show (0 : Int) < B64 ^ (N + 2) from Int.pow_pos hB))
    rw [Int.mul_one] at this
    generalize (B64 : Int) ^ (N + 2) = P at *
    generalize P * vB B64 (u.drop (N + 2)) = A at *
    clear hM eR
    omega
  have hz2 : rd u ((N + 2 : Nat) : Int) = 0 := by
   have s3 := drop_succ B64 u (N + 2) (by clear hV1 hlt hM s1; omega)
   obtain ⟨x0, x1⟩ := Dig_rd hd (N + 2) (by clear hV1 hlt hM s1; omega)
   have p3 := Int.mul_nonneg (Int.le_of_lt hB) (vB_nonneg (Int.le_of_lt hB) (Dig_drop hd (N + 2 + 1)))
   rw [hz] at s3
   clear hV1 hlt hM s1; omega
  rw [hz, Int.mul_zero, Int.add_zero] at s1
  have c1 : ¬ (((0 : Nat) : Int) - 1 ≥ 0) := by decide
  refine Ev.step (f := fun k => exact_divide.l2 k (s : Int) u ((N + 2 : Nat) : Int) q ((N + 2 : Nat) : Int) ((0 : Nat) : Int)) (fun k => ?_) (divide_l2 hs hd hNl (by clear hV1 hlt hM s1; omega) hdq (by clear hV1 hlt hM s1; omega) eQ (by rw [hz2, ← s1, Int.zero_emod, Int.mul_zero, Int.add_zero]; exact eR) (N + 2) 0 u (Nat.zero_add _) ⟨rfl, hd, fun _ _ => rfl, ?_⟩)
  ·simp only [exact_divide.l1]
   rw [if_neg c1]
   rfl
  ·have h0 : rd u ((0 : Nat) : Int) % 2 ^ s = 0 := by
    have s3 := drop_succ B64 u 0 (by clear hV1 hlt hM s1; omega)
    rw [List.drop_zero, eR] at s3
    obtain ⟨c, hc⟩ : ∃ c, c * 2 ^ s = B64 := ⟨2 ^ (64 - s), by
     rw [← Int.pow_add]
     have : 64 - s + s = 64 := by clear hV1 hlt hM s1; omega
     rw [this]
     rfl⟩
    have : rd u ((0 : Nat) : Int) = 2 ^ s * (R - c * vB B64 (u.drop 1)) := by
     rw [show 0 + 1 = 1 from rfl] at s3
     generalize vB B64 (u.drop 1) = X at *
     rw [← hc] at s3
     rw [Int.mul_sub, ← Int.mul_assoc, Int.mul_comm (2 ^ s) c]
     clear hV1 hlt hM s1; omega
    rw [this]
    exact Int.mul_emod_right _ _
   rw [h0]
   simp [vB]
 | succ j ih =>
  intro u q hJ h
  have hj : j + (N + 2) + 1 ≤ L := by clear hV1; omega
  have e0 : ((j + 1 : Nat) : Int) - 1 = (j : Int) := by clear hV1; omega
  have hl := h.1
  have hlq := h.2.2.1
  have c1 : (j : Int) ≥ 0 := by clear hV1; omega
  have c2 : (j : Int) ≤ ((j + (N + 2) + 1 : Nat) : Int) := by clear hV1; omega
  have c3 : ((j + (N + 2) + 1 : Nat) : Int) ≤ (u.length : Int) := by clear hV1; omega
  have c4 : (j : Int) < (q.length : Int) := by clear hV1; omega
  have e1 : wrap64 ((j : Int) + ((N + 2 : Nat) : Int)) = ((j + (N + 2) : Nat) : Int) := by clear hV1; rw [w64 (by omega) (by omega)]; omega
  have e2 : wrap64 (((j + (N + 2) : Nat) : Int) + 1) = ((j + (N + 2) + 1 : Nat) : Int) := by clear hV1 e1; rw [w64 (by omega) (by omega)]; omega
  have e3 : wrap64 ((j : Int) - 1) = (j : Int) - 1 := by clear hV1 e1 e2; exact w64 (by omega) (by omega)
  obtain ⟨d, u', h', hev⟩ := long_step hv hN ln ht hj (by clear hV1 e1 e2 e3; omega) h
  rw [e0]
  refine Ev.step (f := fun k => (exact_stepAt.f k u v (j : Int) ((j + (N + 2) + 1 : Nat) : Int)).bind fun bt200 => exact_divide.l1 k (s : Int) v bt200.2 ((N + 2 : Nat) : Int) (q.set j bt200.1) ((j : Int) - 1)) (fun k => ?_) (Ev.bind hev (ih u' _ (by clear hV1 e1 e2 e3; omega) h'))
  simp only [exact_divide.l1, e1, e2, e3]
  rw [if_pos c1, if_pos c1, if_pos c2, if_pos c3]
  simp only [if_pos c4, Int.toNat_natCast]
theorem divide_ev {m n : Nat} (hm : (d64 m).length ≤ 1099511627000) (hn : (d64 n).length ≤ 1099511627000) (n0 : 0 < n) : Ev (fun k => exact_divide.f k (d64 m) (d64 n)) (d64 (m / n), d64 (m % n)) := by
 have hB : (0 : Int) < B64 := by decide
 refine Ev.bind (compareWords_ev (by omega) (by omega)) ?_
 by_cases hlt : m < n
 ·refine Ev.congr (fun k => if_pos (show cmpN m n < 0 by unfold cmpN; rw [if_pos hlt]; decide)) ?_
  rw [Nat.div_eq_of_lt hlt, Nat.mod_eq_of_lt hlt, d64_zero]
  exact Ev.now _
 refine Ev.congr (fun k => if_neg (show ¬ cmpN m n < 0 by unfold cmpN; rw [if_neg hlt]; split <;> decide)) ?_
 have hpos : 0 < (d64 n).length := by
  rcases Nat.eq_zero_or_pos (d64 n).length with h | h
  ·exfalso
   have := d64_val n
   rw [List.eq_nil_of_length_eq_zero h] at this
   simp [vB] at this
   omega
  ·exact h
 have hle : (d64 n).length ≤ (d64 m).length := d64_len_mono (by omega)
 by_cases h1 : (d64 n).length = 1
 ·refine Ev.congr (fun k => if_pos (show ((d64 n).length : Int) = 1 by omega)) ?_
  have hy : vB B64 (d64 n) = rd (d64 n) 0 := by
   have := drop_succ B64 (d64 n) 0 (by omega)
   rw [List.drop_zero, vB_far _ (by omega), Int.mul_zero, Int.add_zero] at this
   exact this
  rw [d64_val] at hy
  obtain ⟨y0, y1⟩ := Dig_rd (d64_dig n) 0 (by omega)
  have y0' : 0 < rd (d64 n) 0 := by omega
  have e1 : wrap64 (((d64 m).length : Int) - 1) = ((d64 m).length : Int) - 1 := w64 (by omega) (by omega)
  refine Ev.congr (f := fun k => exact_divide.l0 k (d64 m) (d64 n) (List.replicate (d64 m).length 0) 0 (((d64 m).length : Int) - 1)) (fun k => ?_) (divide_l0 (d64_dig m) (by omega) h1 rfl y0' y1 (d64_val m) hy.symm (d64 m).length _ 0 (Nat.le_refl _) (by simp) (Dig_replicate hB _) (Int.le_refl 0) y0' (by rw [vB_far _ (Nat.le_refl _), vB_far _ (by simp)]; simp))
  rw [if_pos (Int.natCast_nonneg _), Int.toNat_natCast, if_pos (by omega), e1]
 ·refine Ev.congr (fun k => if_neg (show ¬ ((d64 n).length : Int) = 1 by omega)) ?_
  obtain ⟨N, hN⟩ : ∃ N, (d64 n).length = N + 2 := ⟨(d64 n).length - 2, by omega⟩
  have e1 : wrap64 (((d64 n).length : Int) - 1) = ((N + 1 : Nat) : Int) := by rw [w64 (by omega) (by omega)]; omega
  have htop := d64_trim n hpos
  rw [hN, show N + 2 - 1 = N + 1 by omega] at htop
  obtain ⟨t0, t1⟩ := Dig_rd (d64_dig n) (N + 1) (by omega)
  obtain ⟨s, hs, hlz, n1, n2⟩ := norm_word (show 0 < rd (d64 n) ((N + 1 : Nat) : Int) by omega) t1
  obtain ⟨b, b1, b2, b3, b4⟩ := shiftUp_ev (d64 n) (d64_dig n) (by omega) s hs
  obtain ⟨a, a1, a2, a3, a4⟩ := shiftUp_ev (d64 m) (d64_dig m) (by omega) s hs
  rw [d64_val] at a3 b3
  have hb : vB B64 b = ((n * 2 ^ s : Nat) : Int) := by rw [b3, Int.natCast_mul, Int.natCast_pow]; rfl
  have tb := trim_ev b2 (by omega)
  rw [hb, Int.toNat_natCast] at tb
  have hlen : (d64 (n * 2 ^ s)).length = N + 2 := by
   have g1 : (d64 n).length ≤ (d64 (n * 2 ^ s)).length := d64_len_mono (Nat.le_mul_of_pos_right n (Nat.two_pow_pos s))
   have g2 : (d64 (n * 2 ^ s)).length ≤ N + 2 := by
    apply dgs_len
    have h2 : vB B64 (d64 n) * 2 ^ s < B64 ^ (N + 2) := by
     have h3 := vB_all B64 (d64 n) (N + 1 + 1) (by omega)
     have hp : (B64 : Int) ^ (N + 2) = B64 ^ (N + 1) * B64 := Int.pow_succ _ _
     rw [← h3, take_succ, Int.add_mul, hp, Int.mul_assoc]
     have h4 := vB_lt hB (Dig_take (d64_dig n) (N + 1))
     rw [List.length_take, Nat.min_eq_left (by omega)] at h4
     have hP : (0 : Int) < 2 ^ s := Int.pow_pos (by decide)
     obtain ⟨c, hc⟩ : ∃ c, c * 2 ^ s = B64 := ⟨2 ^ (64 - s), by
      rw [← Int.pow_add]
      have : 64 - s + s = 64 := by omega
      rw [this]
      rfl⟩
     have h5 : rd (d64 n) ((N + 1 : Nat) : Int) * 2 ^ s + 2 ^ s ≤ B64 := by
      have n2' : rd (d64 n) ((N + 1 : Nat) : Int) * 2 ^ s < B64 := n2
      rw [← hc] at n2' ⊢
      have h6 : rd (d64 n) ((N + 1 : Nat) : Int) < c := Int.lt_of_mul_lt_mul_right n2' (Int.le_of_lt hP)
      have h7 := Int.mul_le_mul_of_nonneg_right (show rd (d64 n) ((N + 1 : Nat) : Int) + 1 ≤ c by omega) (Int.le_of_lt hP)
      rwa [Int.add_mul, Int.one_mul] at h7
     have h8 := Int.mul_lt_mul_of_pos_right h4 hP
     have h9 := Int.mul_le_mul_of_nonneg_left h5 (Int.le_of_lt (show (0 : Int) < B64 ^ (N + 1) from Int.pow_pos hB))
     rw [Int.mul_add] at h9
     generalize vB B64 ((d64 n).take (N + 1)) * 2 ^ s = A at *
     generalize (B64 : Int) ^ (N + 1) * (rd (d64 n) ((N + 1 : Nat) : Int) * 2 ^ s) = A1 at *
     generalize (B64 : Int) ^ (N + 1) * 2 ^ s = A2 at *
     generalize (B64 : Int) ^ (N + 1) * B64 = A3 at *
     clear h4 h3
     omega
    rw [d64_val] at h2
    have h3 : ((n * 2 ^ s : Nat) : Int) < ((18446744073709551614 + 2 : Nat) : Int) ^ (N + 2) := by rw [Int.natCast_mul, Int.natCast_pow]; exact h2
    exact_mod_cast h3
   omega
  have hvt := d64_trim (n * 2 ^ s) (by omega)
  rw [hlen, show N + 2 - 1 = N + 1 by omega] at hvt
  have e2 : wrap64 (((d64 m).length : Int) - ((d64 (n * 2 ^ s)).length : Int)) = (((d64 m).length - (N + 2) + 1 : Nat) : Int) - 1 := by rw [w64 (by omega) (by omega)]; omega
  have e3 : wrap64 ((((d64 m).length - (N + 2) + 1 : Nat) : Int) - 1 + 1) = (((d64 m).length - (N + 2) + 1 : Nat) : Int) := by rw [w64 (by omega) (by omega)]; omega
  have hV : vB B64 (d64 (n * 2 ^ s)) = (n : Int) * 2 ^ s := by rw [d64_val, Int.natCast_mul, Int.natCast_pow]; rfl
  have hP : (0 : Int) < 2 ^ s := Int.pow_pos (by decide)
  have dQ : (m : Int) * 2 ^ s / vB B64 (d64 (n * 2 ^ s)) = ((m / n : Nat) : Int) := by rw [hV, Int.mul_ediv_mul_of_pos_left _ _ hP]; rfl
  have dR : (m : Int) * 2 ^ s % vB B64 (d64 (n * 2 ^ s)) = 2 ^ s * ((m % n : Nat) : Int) := by rw [hV, Int.mul_comm (m : Int), Int.mul_comm (n : Int), Int.mul_emod_mul_of_pos _ _ hP]; rfl
  have start : Long ((m : Int) * 2 ^ s) (vB B64 (d64 (n * 2 ^ s))) ((d64 m).length + 1) ((d64 m).length - (N + 2) + 1) a (List.replicate ((d64 m).length - (N + 2) + 1) 0) ((d64 m).length - (N + 2) + 1) := by
   refine ⟨a1, a2, by simp, Dig_replicate hB _, ?_, ?_⟩
   ·
    have h1 := vB_split B64 a ((d64 m).length - (N + 2) + 1) (by omega)
    have h2 := vB_nonneg (Int.le_of_lt hB) (Dig_take a2 ((d64 m).length - (N + 2) + 1))
    have h3 := vB_lt hB (d64_dig m)
    have h4 := trim_le hB (d64_dig n) (d64_trim n) hpos
    rw [d64_val] at h3 h4
    rw [hN, show N + 2 - 1 = N + 1 by omega] at h4
    rw [a3] at h1
    have h5 : (B64 : Int) ^ (d64 m).length = B64 ^ ((d64 m).length - (N + 2) + 1) * B64 ^ (N + 1) := by rw [← Int.pow_add]; congr 1; omega
    rw [h5] at h3
    have h6 := Int.mul_lt_mul_of_pos_right h3 hP
    rw [Int.mul_assoc] at h6
    have h7 := Int.mul_le_mul_of_nonneg_right h4 (Int.le_of_lt hP)
    rw [hV]
    have hC : (0 : Int) < B64 ^ ((d64 m).length - (N + 2) + 1) := Int.pow_pos hB
    have h8 : B64 ^ ((d64 m).length - (N + 2) + 1) * vB B64 (a.drop ((d64 m).length - (N + 2) + 1)) < B64 ^ ((d64 m).length - (N + 2) + 1) * (B64 ^ (N + 1) * 2 ^ s) := by
     generalize B64 ^ ((d64 m).length - (N + 2) + 1) * vB B64 (a.drop ((d64 m).length - (N + 2) + 1)) = A at *
     generalize B64 ^ ((d64 m).length - (N + 2) + 1) * (B64 ^ (N + 1) * 2 ^ s) = A1 at *
     generalize (m : Int) * 2 ^ s = A2 at *
     clear h5 h7 hC h4 h3
     omega
    exact Int.lt_of_lt_of_le (Int.lt_of_mul_lt_mul_left h8 (Int.le_of_lt hC)) h7
   ·rw [a3, vB_far _ (by simp), Int.mul_zero, Int.mul_zero, Int.add_zero]
  have key := divide_l1 (d64_dig (n * 2 ^ s)) hlen (by omega) hvt hs (by omega) (by omega) (by omega) dQ dR _ _ _ (Nat.le_refl _) start
  refine Ev.congr (f := fun k => (exact_shiftUp.f k (d64 n) (s : Int)).bind fun t184 => ((exact_trim.f k t184).bind fun t187 => ((exact_shiftUp.f k (d64 m) (s : Int)).bind fun t190 => (if 0 ≤ (wrap64 ((wrap64 (((d64 m).length : Int) - (t187.length : Int))) + 1)) then (if (wrap64 ((wrap64 (((d64 m).length : Int) - (t187.length : Int))) + 1) : Int).toNat ≤ 35184372088832 then (exact_divide.l1 k (s : Int) t187 t190 (t187.length : Int) (List.replicate (wrap64 ((wrap64 (((d64 m).length : Int) - (t187.length : Int))) + 1) : Int).toNat 0) (wrap64 (((d64 m).length : Int) - (t187.length : Int)))) else (none)) else (none))))) (fun k => ?_) (Ev.bind b4 (Ev.bind tb (Ev.bind a4 ?_)))
  ·rw [e1, if_pos (Int.natCast_nonneg _), if_pos (by omega), hlz, Option.bind_some]
  ·refine Ev.congr (fun k => ?_) key
   rw [e2, e3, if_pos (Int.natCast_nonneg _), Int.toNat_natCast, if_pos (by omega)]
   rw [show ((d64 (n * 2 ^ s)).length : Int) = ((N + 2 : Nat) : Int) by omega]
theorem NatDivMod_ev {m n : Nat} (hm : (nat m).size ≤ 1099511627776) (hn : (nat n).size ≤ 1099511627776) (n0 : 0 < n) : Ev (fun k => exact_NatDivMod.f k (nat m) (nat n)) (nat (m / n), nat (m % n)) := by
 have lm := words_len m
 have ln := words_len n
 have h1 : (d64 (m / n)).length ≤ (d64 m).length := d64_len_mono (Nat.div_le_self _ _)
 have h2 : (d64 (m % n)).length ≤ (d64 n).length := d64_len_mono (Nat.le_of_lt (Nat.mod_lt _ n0))
 have p1 := pack_ev (d64_dig (m / n)) (by omega)
 have p2 := pack_ev (d64_dig (m % n)) (by omega)
 rw [d64_val, Int.toNat_natCast] at p1 p2
 exact Ev.bind (words_nat hm) (Ev.bind (words_nat hn) (Ev.bind (divide_ev (by omega) (by omega) n0) (Ev.bind p1 (Ev.bind p2 (Ev.now _)))))
end Go.Proofs.YtdhdfcjpeflinaaN
set_option linter.unusedVariables false
namespace Go.Proofs.YtdhdfcjpeflinaaN
open Go.RowKit Go.Proofs.Ytdhdfcjpeflinaa.All Go.Proofs.YtdhdfcjpeflinaaW.PrintWords Go.Proofs.YtdhdfcjpeflinaaW.PrintLast Go.Proofs.YtdhdfcjpeflinaaW.PrintMore
theorem nat_empty {n : Nat} : (nat n).toList = ([] : List UInt8) ↔ n = 0 := by rw [toList_nil, nat_size_zero]
end Go.Proofs.YtdhdfcjpeflinaaN
set_option linter.unusedVariables false
namespace Go.Proofs.YtdhdfcjpeflinaaN
open Go.RowKit Go.Proofs.Ytdhdfcjpeflinaa.All Go.Proofs.YtdhdfcjpeflinaaW.PrintWords Go.Proofs.YtdhdfcjpeflinaaW.PrintLast Go.Proofs.YtdhdfcjpeflinaaW.PrintMore
def bl (n : Nat) : Nat := if n = 0 then 0 else n.log2 + 1
end Go.Proofs.YtdhdfcjpeflinaaN
set_option linter.unusedVariables false
namespace Go.Proofs.YtdhdfcjpeflinaaN
open Go.RowKit Go.Proofs.Ytdhdfcjpeflinaa.All Go.Proofs.YtdhdfcjpeflinaaW.PrintWords Go.Proofs.YtdhdfcjpeflinaaW.PrintLast Go.Proofs.YtdhdfcjpeflinaaW.PrintMore
theorem str_nat {l : List Int} {n : Nat} (hd : Dig 256 l) (ht : 0 < l.length → rd l 0 ≠ 0) (hv : vB 256 l.reverse = n) : strOfNums l = nat n := by
 have : l.reverse = d8 n := by
  refine d8_unique (Dig_reverse hd) (fun hp => ?_) hv
  rw [List.length_reverse] at hp ⊢
  have := rd_reverse l (l.length - 1) (by omega)
  rw [show l.length - 1 - (l.length - 1) = 0 by omega] at this
  rw [this]
  exact ht hp
 unfold nat
 rw [← this, List.reverse_reverse]
theorem drop_zeros (l : List Int) (hd : Dig 256 l) : Dig 256 (l.dropWhile (· == 0)) ∧ (0 < (l.dropWhile (· == 0)).length → rd (l.dropWhile (· == 0)) 0 ≠ 0) ∧ vB 256 (l.dropWhile (· == 0)).reverse = vB 256 l.reverse := by
 induction l with
 | nil => exact ⟨Dig_nil _, fun h => absurd h (by simp), rfl⟩
 | cons x l ih =>
  have h := Dig_cons.1 hd
  by_cases hx : x = 0
  ·subst hx
   have e : (0 :: l).dropWhile (· == 0) = l.dropWhile (· == 0) := by simp [List.dropWhile]
   obtain ⟨h1, h2, h3⟩ := ih h.2
   rw [e]
   refine ⟨h1, h2, ?_⟩
   rw [h3, List.reverse_cons, vB_append]
   simp [vB]
  ·have hb : (x == 0) = false := by simpa using hx
   have e : (x :: l).dropWhile (· == 0) = x :: l := by simp [List.dropWhile, hb]
   rw [e]
   exact ⟨hd, fun _ => hx, rfl⟩
theorem Of_eq {u : Nat} (hu : u < 18446744073709551616) : natural_Of.f (u : Int) = some (nat u) := by
 unfold natural_Of.f
 rw [if_pos ⟨by omega, by omega⟩]
 congr 1
 have hl : natural_Of.bytes (u : Int) 8 = [natural_Of.byte u 0, natural_Of.byte u 1, natural_Of.byte u 2, natural_Of.byte u 3, natural_Of.byte u 4, natural_Of.byte u 5, natural_Of.byte u 6, natural_Of.byte u 7] := rfl
 simp only [natural_Of.byte, Nat.reduceMul, Nat.reduceSub, Int.reducePow] at hl
 have hd : Dig 256 (natural_Of.bytes (u : Int) 8) := by
  rw [hl]
  repeat (refine Dig_cons.2 ⟨⟨Int.emod_nonneg _ (by decide), Int.emod_lt_of_pos _ (by decide)⟩, ?_⟩)
  exact Dig_nil _
 have hv : vB 256 (natural_Of.bytes (u : Int) 8).reverse = u := by
  rw [hl]
  simp only [List.reverse_cons, List.reverse_nil, List.nil_append, List.cons_append, vB]
  omega
 obtain ⟨h1, h2, h3⟩ := drop_zeros _ hd
 exact str_nat h1 h2 (by rw [h3, hv])
end Go.Proofs.YtdhdfcjpeflinaaN
set_option linter.unusedVariables false
namespace Go.Proofs.YtdhdfcjpeflinaaN
open Go.RowKit Go.Proofs.Ytdhdfcjpeflinaa.All Go.Proofs.YtdhdfcjpeflinaaW.PrintWords Go.Proofs.YtdhdfcjpeflinaaW.PrintLast Go.Proofs.YtdhdfcjpeflinaaW.PrintMore
abbrev B32 : Int := 4294967296
def d32 (n : Nat) : List Int := dgs 4294967294 n
theorem d32_dig (n : Nat) : Dig B32 (d32 n) := (dgs_spec 4294967294 n).1
theorem d32_val (n : Nat) : vB B32 (d32 n) = n := (dgs_spec 4294967294 n).2.2
theorem d32_unique {l : List Int} {n : Nat} (hl : Dig B32 l) (ht : Trim l) (hv : vB B32 l = n) : l = d32 n := dgs_unique hl ht hv
theorem d32_zero : d32 0 = [] := dgs_zero _
theorem d32_len_mono {m n : Nat} (h : m ≤ n) : (d32 m).length ≤ (d32 n).length := dgs_len (Nat.lt_of_le_of_lt h (dgs_lt 4294967294 n))
theorem limbs_len (n : Nat) : (d32 n).length ≤ ((nat n).size + 3) / 4 := by
 apply dgs_len
 have h1 := nat_lt_size n
 have h2 : 256 ^ (nat n).size ≤ 256 ^ (4 * (((nat n).size + 3) / 4)) := Nat.pow_le_pow_right (by decide) (by omega)
 rw [Nat.pow_mul] at h2
 exact Nat.lt_of_lt_of_le h1 h2
theorem rtrim_ev : ∀ (n : Nat) (l : List Int), l.length = n → n < 9223372036854775808 → Dig B32 l → Ev (fun k => galoisref01_trim.f k l) (d32 (vB B32 l).toNat) := by
 intro n
 induction n with
 | zero =>
  intro l hl _ hd
  rw [List.eq_nil_of_length_eq_zero hl]
  refine Ev.step (f := fun _ => some []) (fun k => ?_) (by
   show Ev (fun _ => some []) (d32 0)
   rw [d32_zero]
   exact Ev.now _)
  simp [galoisref01_trim.f, galoisref01_trim.l0]
 | succ n ih =>
  intro l hl hn hd
  have hv := vB_nonneg (by decide) hd
  have e1 : wrap64 ((l.length : Int) - 1) = (n : Int) := by rw [w64 (by omega) (by omega)]; omega
  have hvs := take_succ B32 l n
  rw [vB_all _ _ _ (by omega)] at hvs
  by_cases hz : rd l (n : Int) = 0
  ·rw [hz, Int.mul_zero, Int.add_zero] at hvs
   rw [hvs]
   refine Ev.step (f := fun k => galoisref01_trim.f k (l.take n)) (fun k => ?_) (ih _ (by rw [List.length_take]; omega) (by omega) (Dig_take hd _))
   simp only [galoisref01_trim.f, galoisref01_trim.l0, e1]
   rw [if_pos (by omega), if_pos (by omega), if_pos (by omega), if_pos hz, if_pos (by omega), Int.toNat_natCast]
  ·have : l = d32 (vB B32 l).toNat := d32_unique hd (fun _ => by rw [hl, Nat.add_sub_cancel]; exact hz) (by omega)
   rw [← this]
   refine Ev.step (f := fun _ => some l) (fun k => ?_) (Ev.now _)
   simp only [galoisref01_trim.f, galoisref01_trim.l0, e1]
   rw [if_pos (by omega), if_pos (by omega), if_pos (by omega), if_neg hz]
def win (s : ByteArray) (a b : Nat) : Int := vB 256 (((bytesOf s).take b).drop a).reverse
theorem win_self (s : ByteArray) (a : Nat) : win s a a = 0 := by
 unfold win
 rw [List.drop_of_length_le (by rw [List.length_take]; omega)]
 rfl
theorem win_succ (s : ByteArray) (a b : Nat) (hab : a ≤ b) (hb : b < s.size) : win s a (b + 1) = win s a b * 256 + bt s (b : Int) := by
 unfold win
 rw [List.take_succ_eq_append_getElem (by rw [bytesOf_length]; exact hb), List.drop_append_of_le_length (by rw [List.length_take, bytesOf_length]; omega), List.reverse_append, List.reverse_singleton, List.singleton_append, vB_cons, bt_rd, rd_get _ b (by rw [bytesOf_length]; exact hb)]
 omega
theorem win_range (s : ByteArray) (a b : Nat) (hab : a ≤ b) (hb : b ≤ s.size) : 0 ≤ win s a b ∧ win s a b < 256 ^ (b - a) := by
 have hd : Dig 256 (((bytesOf s).take b).drop a).reverse := Dig_reverse (Dig_drop (Dig_take (bytesOf_dig s) _) _)
 refine ⟨vB_nonneg (by decide) hd, ?_⟩
 have := vB_lt (by decide) hd
 rw [List.length_reverse, List.length_drop, List.length_take, bytesOf_length, Nat.min_eq_left hb] at this
 exact this
theorem win_join (s : ByteArray) (a b c : Nat) (hab : a ≤ b) (hbc : b ≤ c) (hc : c ≤ s.size) : win s a c = win s b c + 256 ^ (c - b) * win s a b := by
 obtain ⟨d, rfl⟩ : ∃ d, c = b + d := ⟨c - b, by omega⟩
 induction d with
 | zero =>
  rw [Nat.add_zero, win_self, Nat.sub_self, Int.pow_zero, Int.one_mul, Int.zero_add]
 | succ d ih =>
  rw [← Nat.add_assoc, win_succ s a _ (by omega) (by omega), win_succ s b _ (by omega) (by omega), ih (by omega) (by omega)]
  rw [show b + d + 1 - b = (b + d - b) + 1 by omega, Int.pow_succ, Int.mul_right_comm]
  generalize 256 ^ (b + d - b) * win s a b = X
  omega
theorem win_all (s : ByteArray) : win s 0 s.size = bval s := by
 unfold win bval
 rw [List.drop_zero, List.take_of_length_le (by rw [bytesOf_length]; exact Nat.le_refl _)]
theorem limbs_l1 (s : ByteArray) (hs : s.size ≤ 1099511627776) (out : List Int) (lo : Nat) (hlo : out.length ≤ 1099511627776) (e : Nat) (he : e ≤ s.size) (hle : lo ≤ e) (h4 : e ≤ lo + 4) (r : List Int)
  (next : Ev (fun k => galoisref01_limbs.l0 k s (out ++ [win s lo e]) ((e : Int) - 4)) r) : ∀ (d i : Nat), i + d = e → lo ≤ i → Ev (fun k => galoisref01_limbs.l1 k s out (e : Int) (win s lo i) (i : Int)) r := by
 intro d
 induction d with
 | zero =>
  intro i hi hl
  have hi : i = e := by omega
  subst hi
  have e1 : wrap64 ((i : Int) - 4) = (i : Int) - 4 := w64 (by omega) (by omega)
  refine Ev.step (fun k => ?_) next
  simp only [galoisref01_limbs.l1, e1]
  rw [if_neg (Int.lt_irrefl _), if_pos (by omega)]
 | succ d ih =>
  intro i hi hl
  have c1 : (i : Int) < (e : Int) := by omega
  have c2 : (i : Int) < (s.size : Int) := by omega
  have e1 : wrap64 ((i : Int) + 1) = ((i + 1 : Nat) : Int) := by rw [w64 (by omega) (by omega)]; omega
  obtain ⟨w0, w1⟩ := win_range s lo i hl (by omega)
  have w2 : win s lo i < 16777216 := by
   refine Int.lt_of_lt_of_le w1 ?_
   exact pow_le_pow (B := 256) (by decide) (show i - lo ≤ 3 by omega)
  obtain ⟨b0, b1⟩ := bt_range s (i : Int)
  have e2 : IntKind.u64.wrap (IntKind.u64.wrap (win s lo i * 256) + IntKind.u64.wrap (bt s (i : Int))) = win s lo (i + 1) := by
   rw [win_succ s lo i hl (by omega), u64 (x := win s lo i * 256) (by omega) (by omega), u64 (x := bt s (i : Int)) (by omega) (by omega), u64 (by omega) (by omega)]
  refine Ev.step (f := fun k => galoisref01_limbs.l1 k s out (e : Int) (win s lo (i + 1)) ((i + 1 : Nat) : Int)) (fun k => ?_) (ih (i + 1) (by omega) (by omega))
  simp only [galoisref01_limbs.l1, e1, e2]
  rw [if_pos c1, if_pos (Int.natCast_nonneg _), if_pos c2]
theorem limbs_end (s : ByteArray) (out : List Int) (hd : Dig B32 out) (hl : out.length ≤ 1099511627776) (hv : vB B32 out = bval s) (x : Int) (hx : ¬ x > 0) : Ev (fun k => galoisref01_limbs.l0 k s out x) (d32 (bval s).toNat) := by
 have h := rtrim_ev out.length out rfl (by omega) hd
 rw [hv] at h
 refine Ev.step (f := fun k => (galoisref01_trim.f k out).bind fun t => some t) (fun k => ?_) (Ev.bind h (Ev.now _))
 simp only [galoisref01_limbs.l0]
 rw [if_neg hx]
theorem limbs_l0 (s : ByteArray) (hs : s.size ≤ 1099511627776) : ∀ (e : Nat) (out : List Int), e ≤ s.size → 4 * out.length = s.size - e → Dig B32 out → vB B32 out = win s e s.size → Ev (fun k => galoisref01_limbs.l0 k s out (e : Int)) (d32 (bval s).toNat) := by
 intro e
 induction e using Nat.strongRecOn with
 | _ e ih =>
  intro out he hl hd hv
  by_cases h0 : e = 0
  ·subst h0
   exact limbs_end s out hd (by omega) (by rw [hv, win_all]) _ (by omega)
  ·have hmx : mx 0 (wrap64 ((e : Int) - 4)) = ((e - 4 : Nat) : Int) := by
    rw [w64 (by omega) (by omega)]
    unfold mx
    split <;> omega
   have hw := win_range s (e - 4) e (by omega) he
   have hw1 : win s (e - 4) e < B32 := by
    refine Int.lt_of_lt_of_le hw.2 ?_
    exact pow_le_pow (B := 256) (by decide) (show e - (e - 4) ≤ 4 by omega)
   have hd' : Dig B32 (out ++ [win s (e - 4) e]) := Dig_append hd (Dig_cons.2 ⟨⟨hw.1, hw1⟩, Dig_nil _⟩)
   have hpow : (B32 : Int) ^ out.length = 256 ^ (s.size - e) := by
    rw [← hl, Int.pow_mul]
    rfl
   have hv' : vB B32 (out ++ [win s (e - 4) e]) = win s (e - 4) s.size := by
    rw [vB_append, hpow, hv, win_join s (e - 4) e s.size (by omega) he (Nat.le_refl _)]
    simp [vB]
   refine Ev.step (f := fun k => galoisref01_limbs.l1 k s out (e : Int) (win s (e - 4) (e - 4)) ((e - 4 : Nat) : Int)) (fun k => ?_) (limbs_l1 s hs out (e - 4) (by omega) e he (by omega) (by omega) _ ?_ (e - (e - 4)) (e - 4) (by omega) (Nat.le_refl _))
   ·simp only [galoisref01_limbs.l0, hmx]
    rw [if_pos (by omega), win_self]
   ·by_cases h4 : e ≤ 4
    ·refine limbs_end s _ hd' (by rw [List.length_append]; simp; omega) ?_ _ (by omega)
     rw [hv', show e - 4 = 0 by omega, win_all]
    ·have := ih (e - 4) (by omega) (out ++ [win s (e - 4) e]) (by omega) (by rw [List.length_append]; simp; omega) hd' hv'
     rwa [show ((e - 4 : Nat) : Int) = (e : Int) - 4 by omega] at this
theorem limbs_ev (s : ByteArray) (hs : s.size ≤ 1099511627776) : Ev (fun k => galoisref01_limbs.f k s) (d32 (bval s).toNat) :=
 limbs_l0 s hs s.size [] (Nat.le_refl _) (by simp) (Dig_nil _) (by rw [win_self]; rfl)
theorem limbs_nat {n : Nat} (hs : (nat n).size ≤ 1099511627776) : Ev (fun k => galoisref01_limbs.f k (nat n)) (d32 n) := by
 have := limbs_ev (nat n) hs
 rwa [bval_nat, Int.toNat_natCast] at this
theorem d8_push {N x : Nat} (hx : x < 256) (h : N * 256 + x ≠ 0) : d8 (N * 256 + x) = (x : Int) :: d8 N := by
 unfold d8
 rw [dgs_pos _ _ h, show (N * 256 + x) % (254 + 2) = x by omega, show (N * 256 + x) / (254 + 2) = N by omega]
theorem rpack_byte {N x : Nat} (hx : x < 256) : (if (((d8 N).reverse.length : Int) > 0) then (d8 N).reverse ++ [(x : Int)] else if (x : Int) > 0 then (d8 N).reverse ++ [(x : Int)] else (d8 N).reverse) = (d8 (N * 256 + x)).reverse := by
 by_cases h : N * 256 + x = 0
 ·have hN : N = 0 := by omega
  have hx0 : x = 0 := by omega
  subst hN hx0
  have : d8 0 = [] := dgs_zero _
  rw [show 0 * 256 + 0 = 0 from rfl, this]
  simp
 ·rw [d8_push hx h, List.reverse_cons]
  by_cases h1 : ((d8 N).reverse.length : Int) > 0
  ·rw [if_pos h1]
  ·rw [if_neg h1, if_pos]
   have : N = 0 := by
    rcases Nat.eq_zero_or_pos N with h2 | h2
    ·exact h2
    ·exfalso
     have h3 : (nat N).size ≠ 0 := fun h4 => by have := nat_size_zero.1 h4; omega
     rw [nat_size] at h3
     rw [List.length_reverse] at h1
     omega
   omega
theorem rpack_l1 {l : List Int} {V : Nat} (hd : Dig B32 l) (hl : l.length ≤ 1099511627776) (hV : (nat V).size ≤ 4398046511104) {i H D : Nat} (hi : i < l.length) (hD : rd l (i : Int) = D) (hle : H * 4294967296 + D ≤ V) {r : ByteArray}
  (next : Ev (fun k => galoisref01_pack.l0 k l (d8 (H * 4294967296 + D)).reverse ((i : Int) - 1)) r) : ∀ (c N : Nat), c ≤ 4 → N = H * 256 ^ (4 - c) + D / 256 ^ c → Ev (fun k => galoisref01_pack.l1 k l (d8 N).reverse (i : Int) (8 * (c : Int) - 8)) r := by
 have hD32 : D < 4294967296 := by
  have h := (Dig_rd hd i hi).2
  rw [hD] at h
  exact Int.ofNat_lt.1 h
 intro c
 induction c with
 | zero =>
  intro N _ hN
  have hN : N = H * 4294967296 + D := by simpa using hN
  rw [hN]
  have e1 : wrap64 ((i : Int) - 1) = (i : Int) - 1 := w64 (by omega) (by omega)
  refine Ev.step (fun k => ?_) next
  simp only [galoisref01_pack.l1, e1]
  rw [if_neg (by decide)]
 | succ c ih =>
  intro N hc hN
  have hcase : c = 0 ∨ c = 1 ∨ c = 2 ∨ c = 3 := by omega
  have hNV : N ≤ V := by
   refine Nat.le_trans ?_ hle
   rw [hN]
   exact Nat.add_le_add (Nat.mul_le_mul_left H (Nat.pow_le_pow_right (show 0 < 256 by decide) (show 4 - (c + 1) ≤ 4 from Nat.sub_le _ _))) (Nat.div_le_self _ _)
  have hb : ∃ x : Nat, x < 256 ∧ (shr .u64 (rd l (i : Int)) (8 * ((c + 1 : Nat) : Int) - 8)) % 256 = (x : Int) ∧ N * 256 + x = H * 256 ^ (4 - c) + D / 256 ^ c := by
   refine ⟨D / 256 ^ c % 256, Nat.mod_lt _ (by decide), ?_, ?_⟩
   ·rw [show 8 * ((c + 1 : Nat) : Int) - 8 = ((8 * c : Nat) : Int) by omega, shr_eq _ _ (by omega), hD]
    rcases hcase with rfl | rfl | rfl | rfl <;> simp <;> omega
   ·rw [hN]
    rcases hcase with rfl | rfl | rfl | rfl <;> simp <;> omega
  obtain ⟨x, x1, x2, x3⟩ := hb
  have hsz : (d8 N).reverse.length < 140737488355328 := by
   have := size_mono hNV
   rw [nat_size] at this
   rw [List.length_reverse]
   omega
  have e1 : wrap64 (8 * ((c + 1 : Nat) : Int) - 8 - 8) = 8 * (c : Int) - 8 := by rw [w64 (by omega) (by omega)]; omega
  refine Ev.step (f := fun k => galoisref01_pack.l1 k l (d8 (N * 256 + x)).reverse (i : Int) (8 * (c : Int) - 8)) (fun k => ?_) (ih (N * 256 + x) (by omega) x3)
  rw [← rpack_byte x1]
  simp only [galoisref01_pack.l1, e1, x2]
  rw [if_pos (by omega), if_pos (by omega), if_pos (by omega), if_pos (by omega)]
  by_cases h1 : ((d8 N).reverse.length : Int) > 0
  ·rw [if_pos h1, if_pos hsz, if_pos h1]
  ·rw [if_neg h1, if_neg h1]
   by_cases h2 : (x : Int) > 0
   ·rw [if_pos h2, if_pos hsz, if_pos h2]
   ·rw [if_neg h2, if_neg h2]
theorem rpack_l0 {l : List Int} {V : Nat} (hd : Dig B32 l) (hl : l.length ≤ 1099511627776) (hV : (nat V).size ≤ 4398046511104) (hv : vB B32 l = V) : ∀ (J H : Nat), J ≤ l.length → vB B32 (l.drop J) = H → Ev (fun k => galoisref01_pack.l0 k l (d8 H).reverse ((J : Int) - 1)) (nat V) := by
 intro J
 induction J with
 | zero =>
  intro H _ hH
  rw [List.drop_zero, hv] at hH
  have e : H = V := by omega
  subst e
  refine Ev.step (f := fun _ => some (nat H)) (fun k => ?_) (Ev.now _)
  simp only [galoisref01_pack.l0]
  rw [if_neg (by decide)]
  rfl
 | succ i ih =>
  intro H hJ hH
  have hi : i < l.length := by omega
  obtain ⟨D, hD⟩ := Int.eq_ofNat_of_zero_le (Dig_rd hd i hi).1
  have hds := drop_succ B32 l i hi
  rw [hH, hD] at hds
  have hds' : vB B32 (l.drop i) = ((H * 4294967296 + D : Nat) : Int) := by
   rw [hds]
   show (D : Int) + 4294967296 * (H : Int) = _
   omega
  have hle : H * 4294967296 + D ≤ V := by
   have h1 := vB_split B32 l i (by omega)
   have h2 := vB_nonneg (show (0 : Int) ≤ B32 by decide) (Dig_take hd i)
   have h3 : (1 : Int) ≤ B32 ^ i := by have : (0 : Int) < B32 ^ i := Int.pow_pos (by decide); omega
   have h4 := Int.mul_le_mul_of_nonneg_right h3 (show 0 ≤ vB B32 (l.drop i) from vB_nonneg (by decide) (Dig_drop hd i))
   rw [Int.one_mul] at h4
   rw [hv] at h1
   rw [hds'] at h1 h4
   generalize B32 ^ i * ((H * 4294967296 + D : Nat) : Int) = X at *
   clear h3
   omega
  refine Ev.congr (f := fun k => galoisref01_pack.l0 k l (d8 H).reverse (i : Int)) (fun k => by rw [show ((i + 1 : Nat) : Int) - 1 = (i : Int) by omega]) ?_
  refine Ev.step (f := fun k => galoisref01_pack.l1 k l (d8 H).reverse (i : Int) (8 * ((4 : Nat) : Int) - 8)) (fun k => ?_) (rpack_l1 hd hl hV hi hD hle (ih _ (by omega) hds') 4 H (Nat.le_refl _) ?_)
  ·simp only [galoisref01_pack.l0]
   rw [if_pos (by omega)]
   rfl
  ·have hD32 : D < 4294967296 := by
    have h := (Dig_rd hd i hi).2
    rw [hD] at h
    exact Int.ofNat_lt.1 h
   simp
   omega
theorem rpack_ev {l : List Int} (hd : Dig B32 l) (hl : l.length ≤ 1099511627776) : Ev (fun k => galoisref01_pack.f k l) (nat (vB B32 l).toNat) := by
 have hv := vB_nonneg (show (0 : Int) ≤ B32 by decide) hd
 have hV : (nat (vB B32 l).toNat).size ≤ 4398046511104 := by
  have h : (nat (vB B32 l).toNat).size ≤ 4 * l.length := by
   apply nat_size_le.2
   have h1 := vB_lt (show (0 : Int) < B32 by decide) hd
   rw [Nat.pow_mul]
   have h2 : (((vB B32 l).toNat : Nat) : Int) < ((4294967296 ^ l.length : Nat) : Int) := by
    rw [Int.toNat_of_nonneg hv, Int.natCast_pow]
    exact h1
   exact Int.ofNat_lt.1 h2
  omega
 have e1 : wrap64 ((l.length : Int) - 1) = (l.length : Int) - 1 := w64 (by omega) (by omega)
 have := rpack_l0 hd hl hV (show vB B32 l = (((vB B32 l).toNat : Nat) : Int) by omega) l.length 0 (Nat.le_refl _) (by rw [List.drop_of_length_le (Nat.le_refl _)]; rfl)
 refine Ev.congr (fun k => ?_) this
 unfold galoisref01_pack.f
 rw [e1, show d8 0 = [] from dgs_zero _]
 rfl
end Go.Proofs.YtdhdfcjpeflinaaN
set_option linter.unusedVariables false
namespace Go.Proofs.YtdhdfcjpeflinaaN
open Go.RowKit Go.Proofs.Ytdhdfcjpeflinaa.All Go.Proofs.YtdhdfcjpeflinaaW.PrintWords Go.Proofs.YtdhdfcjpeflinaaW.PrintLast Go.Proofs.YtdhdfcjpeflinaaW.PrintMore
theorem and32 {x : Int} (h0 : 0 ≤ x) (h1 : x < 18446744073709551616) : Go.bits .and .u64 x 4294967295 = x % B32 := and_low h0 h1
end Go.Proofs.YtdhdfcjpeflinaaN
set_option linter.unusedVariables false
namespace Go.Proofs.YtdhdfcjpeflinaaN
open Go.RowKit Go.Proofs.Ytdhdfcjpeflinaa.All Go.Proofs.YtdhdfcjpeflinaaW.PrintWords Go.Proofs.YtdhdfcjpeflinaaW.PrintLast Go.Proofs.YtdhdfcjpeflinaaW.PrintMore
end Go.Proofs.YtdhdfcjpeflinaaN
set_option linter.unusedVariables false
namespace Go.Proofs.YtdhdfcjpeflinaaN
open Go.RowKit Go.Proofs.Ytdhdfcjpeflinaa.All Go.Proofs.YtdhdfcjpeflinaaW.PrintWords Go.Proofs.YtdhdfcjpeflinaaW.PrintLast Go.Proofs.YtdhdfcjpeflinaaW.PrintMore
end Go.Proofs.YtdhdfcjpeflinaaN
set_option linter.unusedVariables false
namespace Go.Proofs.YtdhdfcjpeflinaaN
open Go.RowKit Go.Proofs.Ytdhdfcjpeflinaa.All Go.Proofs.YtdhdfcjpeflinaaW.PrintWords Go.Proofs.YtdhdfcjpeflinaaW.PrintLast Go.Proofs.YtdhdfcjpeflinaaW.PrintMore
def d10 (n : Nat) : List Int := dgs 8 n
theorem d10_dig (n : Nat) : Dig 10 (d10 n) := (dgs_spec 8 n).1
theorem d10_trim (n : Nat) : Trim (d10 n) := (dgs_spec 8 n).2.1
theorem d10_val (n : Nat) : vB 10 (d10 n) = n := (dgs_spec 8 n).2.2
theorem d10_unique {l : List Int} {n : Nat} (hl : Dig 10 l) (ht : Trim l) (hv : vB 10 l = n) : l = d10 n := dgs_unique hl ht hv
theorem d10_zero : d10 0 = [] := dgs_zero _
theorem d10_pos {n : Nat} (h : n ≠ 0) : d10 n = ((n % 10 : Nat) : Int) :: d10 (n / 10) := dgs_pos 8 n h
def txt (D : List Int) : List Int := D.map (fun x => 48 + x)
theorem txt_append (a b : List Int) : txt (a ++ b) = txt a ++ txt b := List.map_append
theorem txt_length (D : List Int) : (txt D).length = D.length := List.length_map _
theorem txt_dig {D : List Int} (h : Dig 10 D) : Dig 256 (txt D) := by
 intro x hx
 obtain ⟨y, hy, rfl⟩ := List.mem_map.1 hx
 have := h y hy
 show 0 ≤ 48 + y ∧ 48 + y < 256
 omega
theorem txt_rd {D : List Int} {i : Nat} (h : i < D.length) : rd (txt D) (i : Int) = 48 + rd D (i : Int) := by
 rw [rd_get _ i (by rw [txt_length]; exact h), rd_get D i h]
 unfold txt
 rw [List.getElem_map]
def dec (n : Nat) : ByteArray := if n = 0 then ⟨#[48]⟩ else strOfNums (txt (d10 n)).reverse
theorem rFormat_l2 (D : List Int) (hl : D.length ≤ 1099511627776) : ∀ (d i : Nat) (out : List Int), i + d = D.length → out.length = D.length → out.drop (D.length - i) = (D.take i).reverse → Ev (fun k => galoisref01_Format.l2 k D out (i : Int)) (strOfNums D.reverse) := by
 intro d
 induction d with
 | zero =>
  intro i out hi ho hd
  have hi : i = D.length := by omega
  subst hi
  rw [Nat.sub_self, List.drop_zero, List.take_length] at hd
  refine Ev.step (fun k => galoisref01_Format.l2.eq_2 ..) (Ev.congr (fun k => if_neg (Int.lt_irrefl _)) ?_)
  rw [hd]
  exact Ev.now _
 | succ d ih =>
  intro i out hi ho hd
  have hlt : i < D.length := by omega
  have hj : D.length - 1 - i < out.length := by omega
  have e1 : wrap64 ((wrap64 ((D.length : Int) - 1)) - (i : Int)) = ((D.length - 1 - i : Nat) : Int) := by
   rw [w64 (x := (D.length : Int) - 1) (by omega) (by omega), w64 (by omega) (by omega)]
   omega
  have e2 : wrap64 ((i : Int) + 1) = ((i + 1 : Nat) : Int) := by clear e1; rw [w64 (by omega) (by omega)]; omega
  have c1 : (i : Int) < (D.length : Int) := by omega
  have c2 : ((D.length - 1 - i : Nat) : Int) < (out.length : Int) := by omega
  refine Ev.step (fun k => ?_) (ih (i + 1) (out.set (D.length - 1 - i) (rd D (i : Int))) (by omega) (by rw [List.length_set]; exact ho) ?_)
  ·simp only [galoisref01_Format.l2, e1, e2]
   rw [if_pos c1, if_pos (Int.natCast_nonneg _), if_pos (Int.natCast_nonneg _), if_pos c2, Int.toNat_natCast]
  ·rw [show D.length - (i + 1) = D.length - 1 - i by omega, List.drop_eq_getElem_cons (by rw [List.length_set]; exact hj), List.getElem_set_self, drop_set, show D.length - 1 - i + 1 = D.length - i by omega, hd, List.take_succ_eq_append_getElem hlt, List.reverse_append, rd_get D i hlt]
   rfl
theorem rFormat_l1 {E l : List Int} {N : Nat} (hl : Dig B32 l) (ll : l.length ≤ 1099511627776) (lE : E.length ≤ 1099511627776) (hN : vB B32 l = N) {r : ByteArray} (next : Ev (fun k => galoisref01_Format.l0 k (txt (E ++ [((N % 10 : Nat) : Int)])) (d32 (N / 10))) r) :
  ∀ (J : Nat) (z : List Int) (c : Int), J ≤ l.length → z.length = l.length → Dig B32 z → 0 ≤ c → c < 10 → z.take J = l.take J → vB B32 (l.drop J) = 10 * vB B32 (z.drop J) + c → Ev (fun k => galoisref01_Format.l1 k (txt E) z c ((J : Int) - 1)) r := by
 intro J
 induction J with
 | zero =>
  intro z c _ hz hd c0 c1 _ hv
  rw [List.drop_zero, List.drop_zero, hN] at hv
  obtain ⟨Z, hZ⟩ := Int.eq_ofNat_of_zero_le (vB_nonneg (show (0 : Int) ≤ B32 by decide) hd)
  rw [hZ] at hv
  have t := rtrim_ev z.length z rfl (by omega) hd
  rw [hZ, Int.toNat_natCast] at t
  have hZN : Z = N / 10 := by omega
  have hc : c = ((N % 10 : Nat) : Int) := by omega
  refine Ev.step (fun k => galoisref01_Format.l1.eq_2 ..) (Ev.congr (fun k => if_neg (by decide)) (Ev.congr (fun k => if_pos (show (txt E).length < 140737488355328 by rw [txt_length]; omega)) (Ev.bind t ?_)))
  rw [txt_append] at next
  rw [u64 (by omega) (by omega), show (48 + c) % 256 = 48 + c by omega, hZN, hc]
  exact next
 | succ J ih =>
  intro z c hJ hz hd c0 c1 ht hv
  have hJz : J < z.length := by omega
  obtain ⟨z0, z1⟩ := Dig_rd hd J hJz
  have z1' : rd z (J : Int) < 4294967296 := z1
  have s1 := drop_succ B32 l J (by omega)
  have hzl : rd z (J : Int) = rd l (J : Int) := by
   rw [← rd_take z (J + 1) J (by omega), ht, rd_take l (J + 1) J (by omega)]
  rw [hv, ← hzl] at s1
  obtain ⟨T, hT⟩ : ∃ T, T = c * 4294967296 + rd z (J : Int) := ⟨_, rfl⟩
  have T0 : 0 ≤ T := by omega
  have T1 : T < 42949672960 := by omega
  have e0 : ((J + 1 : Nat) : Int) - 1 = (J : Int) := by omega
  have e1 : wrap64 ((J : Int) - 1) = (J : Int) - 1 := w64 (by omega) (by omega)
  have e2 : IntKind.u64.wrap (c * 4294967296) = c * 4294967296 := u64 (by omega) (by omega)
  have e3 : IntKind.u64.wrap T = T := u64 T0 (by omega)
  have e4 : IntKind.u64.wrap (Int.tdiv T 10) = T / 10 := by
   rw [Int.tdiv_eq_ediv_of_nonneg T0]
   exact u64 (by omega) (by omega)
  have e5 : Int.tmod T 10 = T % 10 := Int.tmod_eq_emod_of_nonneg T0
  have c2 : (J : Int) < (z.length : Int) := by omega
  refine Ev.step (fun k => ?_) (ih (z.set J (T / 10)) (T % 10) (by omega) (by rw [List.length_set]; exact hz) (Dig_set hd J (by omega) (by show _ < (4294967296 : Int); omega)) (by omega) (by omega) ?_ ?_)
  ·simp only [galoisref01_Format.l1, e0, e1, e2, ← hT, e3, e4, e5]
   rw [if_pos (by omega), if_pos (Int.natCast_nonneg _), if_pos c2, Int.toNat_natCast]
  ·rw [List.take_set_of_le (Nat.le_refl J)]
   have h := congrArg (List.take J) ht
   rwa [List.take_take, List.take_take, Nat.min_eq_left (by omega)] at h
  ·rw [s1, drop_succ B32 (z.set J (T / 10)) J (by rw [List.length_set]; exact hJz), rd_set_self _ _ _ hJz, drop_set]
   show _ + 4294967296 * (10 * vB B32 (z.drop (J + 1)) + c) = 10 * (T / 10 + 4294967296 * vB B32 (z.drop (J + 1))) + T % 10
   omega
theorem rFormat_l0 : ∀ (N : Nat) (E : List Int), (E ++ d10 N).length ≤ 1000000000 → (d32 N).length ≤ 1000000000 → Ev (fun k => galoisref01_Format.l0 k (txt E) (d32 N)) (strOfNums (txt (E ++ d10 N)).reverse) := by
 intro N
 induction N using Nat.strongRecOn with
 | _ N ih =>
  intro E hE hN
  refine Ev.step (fun k => galoisref01_Format.l0.eq_2 ..) ?_
  by_cases h : N = 0
  ·subst h
   rw [d10_zero, List.append_nil] at hE ⊢
   rw [d32_zero]
   have hl := txt_length E
   refine Ev.congr (fun k => if_neg (by decide)) (Ev.congr (fun k => if_pos (Int.natCast_nonneg _)) (Ev.congr (fun k => if_pos (show ((((txt E).length : Nat) : Int) : Int).toNat ≤ 281474976710656 by omega)) ?_))
   rw [Int.toNat_natCast]
   refine rFormat_l2 (txt E) (by omega) (txt E).length 0 _ (by omega) (List.length_replicate) ?_
   rw [Nat.sub_zero, List.drop_of_length_le (by rw [List.length_replicate]; exact Nat.le_refl _)]
   rfl
  ·have hpos : 0 < (d32 N).length := by
    rcases Nat.eq_zero_or_pos (d32 N).length with h1 | h1
    ·exfalso
     have := d32_val N
     rw [List.eq_nil_of_length_eq_zero h1] at this
     simp [vB] at this
     omega
    ·exact h1
   have he : E ++ d10 N = (E ++ [((N % 10 : Nat) : Int)]) ++ d10 (N / 10) := by
    rw [d10_pos h, List.append_assoc]
    rfl
   rw [he] at hE ⊢
   have hl : E.length ≤ 1000000000 := by
    rw [List.length_append, List.length_append] at hE
    omega
   refine Ev.congr (fun k => if_pos (show ((d32 N).length : Int) > 0 by omega)) ?_
   rw [w64 (by omega) (by omega)]
   refine rFormat_l1 (d32_dig N) (by omega) (by omega) (d32_val N) (ih (N / 10) (by omega) _ hE (Nat.le_trans (d32_len_mono (Nat.div_le_self N 10)) hN)) (d32 N).length (d32 N) 0 (Nat.le_refl _) rfl (d32_dig N) (by decide) (by decide) rfl ?_
   rw [List.drop_of_length_le (Nat.le_refl _)]
   rfl
theorem d10_len {n k : Nat} (h : (nat n).size ≤ k) : (d10 n).length ≤ 3 * k := by
 apply dgs_len
 have h1 := nat_size_le.1 h
 rw [Nat.pow_mul]
 exact Nat.lt_of_lt_of_le h1 (Nat.pow_le_pow_left (by decide) k)
theorem rFormat_ev {n : Nat} (hn : (nat n).size ≤ 100000) : Ev (fun k => galoisref01_Format.f k (nat n)) (dec n) := by
 unfold dec
 by_cases h : n = 0
 ·rw [if_pos h]
  exact Ev.congr (fun k => if_pos (nat_empty.2 h)) (Ev.now _)
 ·rw [if_neg h]
  have h1 := d10_len hn
  have h2 := limbs_len n
  exact Ev.congr (fun k => if_neg (fun h0 => h (nat_empty.1 h0))) (Ev.bind (limbs_nat (by omega)) (rFormat_l0 n [] (by rw [List.nil_append]; omega) (by omega)))
def digit (s : ByteArray) (i : Nat) : Prop := 48 ≤ bt s (i : Int) ∧ bt s (i : Int) ≤ 57
instance (s : ByteArray) (i : Nat) : Decidable (digit s i) := by unfold digit; infer_instance
def dv (s : ByteArray) : Nat → Nat
 | 0 => 0
 | i + 1 => dv s i * 10 + (bt s (i : Int) - 48).toNat
def digits (s : ByteArray) : Prop := ∀ i : Nat, i < s.size → digit s i
instance (s : ByteArray) : Decidable (digits s) := by unfold digits; infer_instance
theorem dv_lt {s : ByteArray} : ∀ {i : Nat}, (∀ j : Nat, j < i → digit s j) → dv s i < 10 ^ i := by
 intro i
 induction i with
 | zero => intro _; exact Nat.one_pos
 | succ i ih =>
  intro h
  have h1 := ih (fun j hj => h j (by omega))
  have h2 := h i (by omega)
  unfold digit at h2
  rw [dv, Nat.pow_succ]
  omega
theorem dv_size {s : ByteArray} {i : Nat} (h : ∀ j : Nat, j < i → digit s j) : (nat (dv s i)).size ≤ i :=
 nat_size_le.2 (Nat.lt_of_lt_of_le (dv_lt h) (Nat.pow_le_pow_left (by decide) i))
def RDig (l z : List Int) (d : Int) (j : Nat) (c : Int) : Prop :=
 z.length = l.length ∧ Dig B32 z ∧ 0 ≤ c ∧ c < 10 ∧ z.drop j = l.drop j ∧ vB B32 (z.take j) + B32 ^ j * c = 10 * vB B32 (l.take j) + d
theorem rdig_step {l z : List Int} {d c : Int} {j : Nat} (hj : j < l.length) (h : RDig l z d j c) : 0 ≤ c + rd z (j : Int) * 10 ∧ c + rd z (j : Int) * 10 < 42949672960 ∧ RDig l (z.set j ((c + rd z (j : Int) * 10) % B32)) d (j + 1) ((c + rd z (j : Int) * 10) / B32) := by
 obtain ⟨h1, h2, h3, h4, h5, h6⟩ := h
 obtain ⟨z0, z1⟩ := Dig_rd h2 j (by omega)
 have z1' : rd z (j : Int) < 4294967296 := z1
 have hzl : rd z (j : Int) = rd l (j : Int) := by
  have := congrArg (fun x => rd x ((0 : Nat) : Int)) h5
  simpa only [rd_drop, Nat.add_zero] using this
 obtain ⟨T, hT⟩ : ∃ T, T = c + rd z (j : Int) * 10 := ⟨_, rfl⟩
 have T0 : 0 ≤ T := by clear h6; omega
 have T1 : T < 42949672960 := by clear h6; omega
 rw [← hT]
 refine ⟨T0, T1, by rw [List.length_set]; exact h1, Dig_set h2 j (by show 0 ≤ T % 4294967296; omega) (by show T % 4294967296 < 4294967296; omega), by show 0 ≤ T / 4294967296; omega, by show T / 4294967296 < 10; omega, ?_, ?_⟩
 ·rw [drop_set, ← List.drop_drop, h5, List.drop_drop]
 ·have ht : (z.set j (T % B32)).take j = z.take j := List.take_set_of_le (Nat.le_refl j)
  rw [take_succ, take_succ, ht, rd_set_self _ _ _ (by omega), ← hzl, Int.pow_succ]
  have e1 : B32 ^ j * (T % B32) + B32 ^ j * B32 * (T / B32) = B32 ^ j * T := by
   rw [Int.mul_assoc, ← Int.mul_add, Int.emod_add_mul_ediv]
  have e2 : B32 ^ j * T = B32 ^ j * c + 10 * (B32 ^ j * rd z (j : Int)) := by rw [hT, Int.mul_add, ← Int.mul_assoc (B32 ^ j), Int.mul_comm _ 10]
  rw [e2] at e1
  rw [Int.mul_add 10]
  generalize B32 ^ j * (T % B32) = A at *
  generalize B32 ^ j * B32 * (T / B32) = A2 at *
  generalize B32 ^ j * rd z (j : Int) = A3 at *
  generalize B32 ^ j * c = A4 at *
  clear e2 hT T0 T1
  omega
theorem rDigits_l1 {s : ByteArray} {i V : Nat} {l : List Int} {d : Int} (hl : Dig B32 l) (ll : l.length ≤ 1099511627776) (hi : i ≤ 1099511627776) (hv : vB B32 l * 10 + d = V) {r : ByteArray × Bool}
  (next : ∀ z : List Int, Dig B32 z → z.length ≤ l.length + 1 → vB B32 z = V → Ev (fun k => galoisref01_Digits.l0 k s z ((i + 1 : Nat) : Int)) r) : ∀ (m j : Nat) (z : List Int) (c : Int), j + m = l.length → RDig l z d j c → Ev (fun k => galoisref01_Digits.l1 k s z (i : Int) c (j : Int)) r := by
 intro m
 induction m with
 | zero =>
  intro j z c hj h
  have hj : j = l.length := by omega
  subst hj
  obtain ⟨h1, h2, h3, h4, h5, h6⟩ := h
  have e1 : wrap64 ((i : Int) + 1) = ((i + 1 : Nat) : Int) := by clear h6 hv; rw [w64 (by omega) (by omega)]; omega
  rw [vB_all _ _ _ (by omega), vB_all _ _ _ (by omega)] at h6
  refine Ev.step (fun k => galoisref01_Digits.l1.eq_2 ..) (Ev.congr (fun k => if_neg (show ¬ (l.length : Int) < (z.length : Int) by omega)) ?_)
  rw [e1]
  by_cases hc : c > 0
  ·refine Ev.congr (fun k => if_pos hc) (Ev.congr (fun k => if_pos (show z.length < 17592186044416 by omega)) (next (z ++ [c]) (Dig_append h2 (Dig_cons.2 ⟨⟨h3, by show c < 4294967296; omega⟩, Dig_nil _⟩)) (by rw [List.length_append, h1]; exact Nat.le_refl _) ?_))
   rw [vB_append, h1]
   simp only [vB]
   rw [Int.mul_zero, Int.add_zero, h6]
   omega
  ·have hc0 : c = 0 := by omega
   rw [hc0, Int.mul_zero, Int.add_zero] at h6
   exact Ev.congr (fun k => if_neg hc) (next z h2 (by omega) (by rw [h6]; omega))
 | succ m ih =>
  intro j z c hj h
  obtain ⟨t0, t1, h'⟩ := rdig_step (by omega) h
  have h1 := h.1
  obtain ⟨z0, z1⟩ := Dig_rd h.2.1 j (by omega)
  have z1' : rd z (j : Int) < 4294967296 := z1
  have c1 : (j : Int) < (z.length : Int) := by clear hv; omega
  have c2 : j + 1 + m = l.length := by clear hv; omega
  have e1 : wrap64 ((j : Int) + 1) = ((j + 1 : Nat) : Int) := by clear hv; rw [w64 (by omega) (by omega)]; omega
  have e2 : IntKind.u64.wrap (rd z (j : Int) * 10) = rd z (j : Int) * 10 := u64 (by omega) (by omega)
  have e3 : IntKind.u64.wrap (c + rd z (j : Int) * 10) = c + rd z (j : Int) * 10 := u64 t0 (by omega)
  have e4 := and32 t0 (show c + rd z (j : Int) * 10 < 18446744073709551616 by omega)
  refine Ev.step (fun k => ?_) (ih (j + 1) _ _ c2 h')
  simp only [galoisref01_Digits.l1, e1, e2, e3, e4, Int.toNat_natCast]
  rw [if_pos c1, if_pos (Int.natCast_nonneg _)]
theorem rDigits_l0 {s : ByteArray} (hs : s.size ≤ 100000) : ∀ (d i : Nat) (l : List Int), i + d = s.size → (∀ j : Nat, j < i → digit s j) → Dig B32 l → l.length ≤ i → vB B32 l = dv s i → Ev (fun k => galoisref01_Digits.l0 k s l (i : Int)) (if digits s then (nat (dv s s.size), true) else (⟨#[]⟩, false)) := by
 intro d
 induction d with
 | zero =>
  intro i l hi hd hl ll hv
  have hi : i = s.size := by omega
  subst hi
  have p := rpack_ev hl (by omega)
  rw [hv, Int.toNat_natCast] at p
  rw [if_pos (show digits s from hd)]
  exact Ev.step (fun k => galoisref01_Digits.l0.eq_2 ..) (Ev.congr (fun k => if_neg (Int.lt_irrefl _)) (Ev.bind p (Ev.now _)))
 | succ d ih =>
  intro i l hi hd hl ll hv
  refine Ev.step (fun k => galoisref01_Digits.l0.eq_2 ..) (Ev.congr (fun k => if_pos (show (i : Int) < (s.size : Int) by omega)) (Ev.congr (fun k => if_pos (Int.natCast_nonneg _)) ?_))
  have bad : ¬ digit s i → Ev (fun k => galoisref01_Digits.j2 k s l (i : Int) true) (if digits s then (nat (dv s s.size), true) else (⟨#[]⟩, false)) := by
   intro h
   rw [if_neg (fun h' => h (h' i (by omega)))]
   exact Ev.step (fun k => galoisref01_Digits.j2.eq_2 ..) (Ev.congr (fun k => if_pos rfl) (Ev.now _))
  by_cases h1 : bt s (i : Int) < 48
  ·exact Ev.congr (fun k => if_pos h1) (bad (fun h => by unfold digit at h; omega))
  ·refine Ev.congr (fun k => if_neg h1) ?_
   by_cases h2 : bt s (i : Int) > 57
   ·rw [decide_eq_true h2]
    exact bad (fun h => by unfold digit at h; omega)
   ·rw [decide_eq_false h2]
    have hdi : digit s i := ⟨by omega, by omega⟩
    have hd' : ∀ j : Nat, j < i + 1 → digit s j := fun j hj => by
     rcases Nat.lt_or_ge j i with h | h
     ·exact hd j h
     ·rw [show j = i by omega]; exact hdi
    refine Ev.step (fun k => galoisref01_Digits.j2.eq_2 ..) (Ev.congr (fun k => if_neg (by decide)) (Ev.congr (fun k => if_pos (Int.natCast_nonneg _)) (Ev.congr (fun k => if_pos (show (i : Int) < (s.size : Int) by omega)) ?_)))
    rw [show (bt s (i : Int) - 48) % 256 = bt s (i : Int) - 48 by omega]
    refine rDigits_l1 (V := dv s (i + 1)) (d := bt s (i : Int) - 48) hl (by omega) (by omega) ?_ (fun z z1 z2 z3 => ih (i + 1) z (by omega) hd' z1 (by omega) z3) l.length 0 l _ (by omega) ⟨rfl, hl, by omega, by omega, rfl, ?_⟩
    ·rw [hv, dv]
     omega
    ·rw [List.take_zero, Int.pow_zero]
     simp [vB]
def bad0 (s : ByteArray) : Prop := s.size = 0 ∨ (1 < s.size ∧ bt s 0 = 48)
instance (s : ByteArray) : Decidable (bad0 s) := by unfold bad0; infer_instance
theorem rDigits_ev {s : ByteArray} (hs : s.size ≤ 100000) : Ev (fun k => galoisref01_Digits.f k s) (if bad0 s then (⟨#[]⟩, false) else if digits s then (nat (dv s s.size), true) else (⟨#[]⟩, false)) := by
 have bad : bad0 s → Ev (fun k => galoisref01_Digits.j0 k s true) (if bad0 s then (⟨#[]⟩, false) else if digits s then (nat (dv s s.size), true) else (⟨#[]⟩, false)) := by
  intro h
  rw [if_pos h]
  exact Ev.step (fun k => galoisref01_Digits.j0.eq_2 ..) (Ev.congr (fun k => if_pos rfl) (Ev.now _))
 have good : ¬ bad0 s → Ev (fun k => galoisref01_Digits.j0 k s false) (if bad0 s then (⟨#[]⟩, false) else if digits s then (nat (dv s s.size), true) else (⟨#[]⟩, false)) := by
  intro h
  rw [if_neg h]
  exact Ev.step (fun k => galoisref01_Digits.j0.eq_2 ..) (Ev.congr (fun k => if_neg (by decide)) (rDigits_l0 hs s.size 0 [] (by omega) (fun j hj => absurd hj (by omega)) (Dig_nil _) (by decide) rfl))
 by_cases h0 : s.size = 0
 ·exact Ev.congr (fun k => if_pos (toList_nil.2 h0)) (bad (Or.inl h0))
 ·refine Ev.congr (fun k => if_neg (fun h => h0 (toList_nil.1 h))) ?_
  by_cases h1 : (s.size : Int) > 1
  ·refine Ev.congr (fun k => if_pos h1) (Ev.congr (fun k => if_pos (show 0 < (s.size : Int) by omega)) ?_)
   by_cases h2 : bt s 0 = 48
   ·rw [h2]
    exact bad (Or.inr ⟨by omega, h2⟩)
   ·rw [show (bt s 0 == 48) = false from beq_eq_false_iff_ne.2 h2]
    exact good (fun h => by unfold bad0 at h; omega)
  ·exact Ev.congr (fun k => if_neg h1) (good (fun h => by unfold bad0 at h; omega))
def parseR (s : ByteArray) : ByteArray × Int := if 4096 < s.size then (⟨#[]⟩, 12) else if bad0 s then (⟨#[]⟩, 11) else if digits s then bnd (dv s s.size) else (⟨#[]⟩, 11)
theorem bytes_txt {D : List Int} (h : Dig 10 D) : bytesOf (strOfNums (txt D).reverse) = (txt D).reverse := bytesOf_str (Dig_reverse (txt_dig h))
theorem size_txt {D : List Int} (h : Dig 10 D) : (strOfNums (txt D).reverse).size = D.length := by
 rw [← bytesOf_length, bytes_txt h, List.length_reverse, txt_length]
theorem bt_txt {D : List Int} (h : Dig 10 D) {i : Nat} (hi : i < D.length) : bt (strOfNums (txt D).reverse) (i : Int) = 48 + rd D ((D.length - 1 - i : Nat) : Int) := by
 rw [bt_rd, bytes_txt h, rd_reverse _ _ (by rw [txt_length]; exact hi), txt_length, txt_rd (by omega)]
theorem dv_txt {D : List Int} (h : Dig 10 D) : ∀ i : Nat, i ≤ D.length → ((dv (strOfNums (txt D).reverse) i : Nat) : Int) = vB 10 (D.drop (D.length - i)) := by
 intro i
 induction i with
 | zero =>
  intro _
  rw [Nat.sub_zero, List.drop_of_length_le (Nat.le_refl _)]
  rfl
 | succ i ih =>
  intro hi
  have h1 := ih (by omega)
  obtain ⟨d0, d1⟩ := Dig_rd h (D.length - 1 - i) (by omega)
  have h2 := drop_succ 10 D (D.length - 1 - i) (by omega)
  rw [show D.length - 1 - i + 1 = D.length - i by omega, ← h1] at h2
  rw [show D.length - (i + 1) = D.length - 1 - i by omega, h2, dv, bt_txt h (by omega)]
  omega
theorem dec_digits (n : Nat) : digits (dec n) ∧ ¬ bad0 (dec n) ∧ dv (dec n) (dec n).size = n ∧ (dec n).size = if n = 0 then 1 else (d10 n).length := by
 unfold dec
 by_cases h : n = 0
 ·subst h
  rw [if_pos rfl]
  exact ⟨by decide, by decide, by decide, rfl⟩
 ·rw [if_neg h, if_neg h]
  have hd := d10_dig n
  have hs := size_txt hd
  have hpos : 0 < (d10 n).length := by rw [d10_pos h]; simp
  refine ⟨?_, ?_, ?_, hs⟩
  ·intro i hi
   rw [hs] at hi
   obtain ⟨d0, d1⟩ := Dig_rd hd ((d10 n).length - 1 - i) (by omega)
   unfold digit
   rw [bt_txt hd hi]
   omega
  ·intro hb
   unfold bad0 at hb
   rw [hs] at hb
   rcases hb with hb | ⟨_, hb⟩
   ·omega
   ·have h1 := bt_txt hd hpos
    rw [show (d10 n).length - 1 - 0 = (d10 n).length - 1 by omega] at h1
    have h2 := d10_trim n hpos
    have h3 : bt (strOfNums (txt (d10 n)).reverse) ((0 : Nat) : Int) = 48 := hb
    rw [h3] at h1
    omega
  ·have h1 := dv_txt hd (d10 n).length (Nat.le_refl _)
   rw [Nat.sub_self, List.drop_zero, d10_val] at h1
   rw [hs]
   exact Int.ofNat_inj.1 h1
theorem parse_dec {n : Nat} (hn : (nat n).size ≤ 1024) : parseR (dec n) = (nat n, 0) := by
 obtain ⟨h1, h2, h3, h4⟩ := dec_digits n
 have h5 := d10_len hn
 have h6 : ¬ 4096 < (dec n).size := by rw [h4]; split <;> omega
 unfold parseR
 rw [if_neg h6, if_neg h2, if_pos h1, h3, bnd_ok hn]
end Go.Proofs.YtdhdfcjpeflinaaN
set_option linter.unusedVariables false
namespace Go.Proofs.YtdhdfcjpeflinaaN
open Go.RowKit Go.Proofs.Ytdhdfcjpeflinaa.All Go.Proofs.YtdhdfcjpeflinaaW.PrintWords Go.Proofs.YtdhdfcjpeflinaaW.PrintLast Go.Proofs.YtdhdfcjpeflinaaW.PrintMore
abbrev G18 : Int := 1000000000000000000
end Go.Proofs.YtdhdfcjpeflinaaN
