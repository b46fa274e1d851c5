/- Part of the proof of the statement IntegerRing: lemmas on the model's steps, Lean functions that say what the program's functions compute, and proofs that the calls do just that. No hypothesis is added. -/
import Derived.Test.YtdhdfcjpeflinaaKIntegerRing3
set_option linter.all false
set_option linter.unusedVariables false
set_option linter.unusedSimpArgs false
set_option maxRecDepth 100000
namespace Go.Proofs.YtdhdfcjpeflinaaV
open Go Go.RowKit Go.Proofs.Ytdhdfcjpeflinaa Go.Proofs.YtdhdfcjpeflinaaE Go.Proofs.YtdhdfcjpeflinaaW.PrintWords Go.Proofs.YtdhdfcjpeflinaaW.PrintLast Go.Proofs.YtdhdfcjpeflinaaW.PrintMore
theorem ok76 (k : Nat) : FeOk Go.Proofs.Try.prog (fe76 (FX76 k)) :=
 fe_ok EOK HM (es := fun k => fes76 (FX108 k) (FX110 k)) (fun k => List.forall_mem_cons.2 ⟨ok108 k, List.forall_mem_cons.2 ⟨ok110 k, List.forall_mem_nil _⟩⟩) (N := 20) (an := an76) (c := cd76) (f := 76) (fn := Go.Proofs.Try.f76) (rms := rm76) (ask := ask76) (rsk := rsk76) (enc := enc76) (dec := dec76) (tbl := []) (fun s => rfl) Go.Proofs.Try.func76 (by kernel_rfl) (by kernel_rfl) (by kernel_rfl) (fun k => les76)
  (List.forall_mem_nil _) (fun k s0 => .nil)
  (F := fun k s => FX76 k s.1.1) (fun k s r h => (e76 (FX108 k) (FX110 k) s).trans (b76 k s.1.1 r h)) k
theorem b28 (k : Nat) (x0 : (Bool × ByteArray)) : LeO (FX28 k x0) (B28 (FX33 k) (FX53 k) (FX76 k) x0) := by
 show LeO (All.integer_IsSquare.f k x0.1 x0.2) _
 unfold All.integer_IsSquare.f; unfold B28; (try simp only [FX33, FX53, FX76, All.integer_zero.f, All.exact_stepAt.f, All.S24.f0, All.S24.f1, All.rd_T24, All.z24]); exact BR
theorem ok28 (k : Nat) : FeOk Go.Proofs.Try.prog (fe28 (FX28 k)) :=
 fe_ok EOK HM (es := fun k => fes28 (FX33 k) (FX53 k) (FX76 k)) (fun k => List.forall_mem_cons.2 ⟨ok33 k, List.forall_mem_cons.2 ⟨ok53 k, List.forall_mem_cons.2 ⟨ok76 k, List.forall_mem_nil _⟩⟩⟩) (N := 21) (an := an28) (c := cd28) (f := 28) (fn := Go.Proofs.Try.f28) (rms := rm28) (ask := ask28) (rsk := rsk28) (enc := enc28) (dec := dec28) (tbl := []) (fun s => rfl) Go.Proofs.Try.func28 (by kernel_rfl) (by kernel_rfl) (by kernel_rfl) (fun k => les28)
  (List.forall_mem_nil _) (fun k s0 => .nil)
  (F := fun k s => FX28 k s.1.1) (fun k s r h => (e28 (FX33 k) (FX53 k) (FX76 k) s).trans (b28 k s.1.1 r h)) k
theorem b12 (k : Nat) : LeO (FX12 k) (B12 (FX14 k) (FX15 k) (FX16 k) (FX27 k) (FX28 k) (FX30 k)) := by
 show LeO (All.galoislaw02_awake.f k) _
 unfold All.galoislaw02_awake.f
 unfold B12
 (try simp only [FX14, FX15, FX16, FX27, FX28, FX30, All.integer_zero.f, All.exact_stepAt.f, All.S24.f0, All.S24.f1, All.rd_T24, All.z24])
 (try simp only [List.take_append_drop, List.drop_length, List.append_nil, Int.zero_sub, Int.toNat_natCast, Int.reduceToNat, Int.zero_add, List.take_zero, List.nil_append, List.append_assoc, List.length_set, ite_bind_, List.take_left, BAe, bne, decide_int_eq, decide_not, wrap_mod, if_true, if_false, Bool.false_eq_true, bind_assoc_, slice_def, List.drop_zero, List.take_length, wrap_u8, bind_some_, cnd_eq_if, rdOf, ite_not, Bool.and_eq_true, Bool.or_eq_true, Bool.not_eq_true', bfalse, Bool.not_eq_false', beq_iff_eq, decide_eq_true_eq, isEmpty_eq, ite_and_, ite_or_, ne_eq, toList_mk, List.toList_toArray])
 repeat' first
 | (with_reducible refine LeO.trans ((All.galoislaw02_awake.mono_l k) _ _ _ _ _ _ _ _ _ _ _ _ _ _ _ _) ?_; rw [All.galoislaw02_awake.j0]; (try simp only [if_true, if_false, decide_eq_true_eq, Bool.false_eq_true, decide_not, ite_not, bne, decide_int_eq, beq_iff_eq, Bool.not_eq_true', bfalse, toList_mk, List.toList_toArray, ite_and_, ite_or_, Bool.and_eq_true, Bool.or_eq_true, isEmpty_eq, wrap_mod, wrap_u8, All.integer_zero.f, bind_some_, Int.toNat_natCast, Int.reduceToNat, Int.zero_sub, BAe]))
 | (with_reducible exact LeO.none _)
 | (with_reducible exact LeO.refl _)
 | (with_reducible refine LeO.posR (by with_reducible assumption) ?_)
 | (with_reducible refine LeO.negR (by with_reducible assumption) ?_)
 | (with_reducible refine LeO.bindR (by with_reducible assumption) ?_)
 | (with_reducible refine LeO.posL (by with_reducible assumption) ?_)
 | (with_reducible refine LeO.negL (by with_reducible assumption) ?_)
 | (with_reducible refine LeO.iteL (fun _ => ?_) (fun _ => ?_))
 | (with_reducible refine LeO.bindK (by with_reducible assumption) ?_)
 | (with_reducible refine LeO.bindL (fun _ _ => ?_))
 | (refine LeO.posR (by first | decide | exact Int.le_refl _ | omega | assumption) ?_)
 | (refine LeO.negR (by first | decide | omega) ?_)
theorem ok12 (k : Nat) : FeOk Go.Proofs.Try.prog (fe12 (FX12 k)) :=
 fe_ok EOK HM (es := fun k => fes12 (FX14 k) (FX15 k) (FX16 k) (FX27 k) (FX28 k) (FX30 k)) (fun k => List.forall_mem_cons.2 ⟨ok14 k, List.forall_mem_cons.2 ⟨ok15 k, List.forall_mem_cons.2 ⟨ok16 k, List.forall_mem_cons.2 ⟨ok27 k, List.forall_mem_cons.2 ⟨ok28 k, List.forall_mem_cons.2 ⟨ok30 k, List.forall_mem_nil _⟩⟩⟩⟩⟩⟩) (N := 127) (an := an12) (c := cd12) (f := 12) (fn := Go.Proofs.Try.f12) (rms := rm12) (ask := ask12) (rsk := rsk12) (enc := enc12) (dec := dec12) (tbl := []) (fun s => rfl) Go.Proofs.Try.func12 (by kernel_rfl) (by kernel_rfl) (by kernel_rfl) (fun k => les12)
  (List.forall_mem_nil _) (fun k s0 => .nil)
  (F := fun k s => FX12 k) (fun k s r h => (e12 (FX14 k) (FX15 k) (FX16 k) (FX27 k) (FX28 k) (FX30 k) s).trans (b12 k r h)) k
theorem b13 (k : Nat) (x0 : (Bool × ByteArray)) (x1 : (Bool × ByteArray)) (x2 : Int) : LeO (FX13 k x0 x1 x2) (B13 x0 x1 x2) := by
 show LeO (All.galoislaw02_long.f x0.1 x0.2 x1.1 x1.2 x2) _
 unfold All.galoislaw02_long.f; unfold B13; (try simp only [All.integer_zero.f, All.exact_stepAt.f, All.S24.f0, All.S24.f1, All.rd_T24, All.z24]); exact BR
theorem ok13 (k : Nat) : FeOk Go.Proofs.Try.prog (fe13 (FX13 k)) :=
 fe_ok EOK HM (es := fun k => fes13) (fun k => List.forall_mem_nil _) (N := 19) (an := an13) (c := cd13) (f := 13) (fn := Go.Proofs.Try.f13) (rms := rm13) (ask := ask13) (rsk := rsk13) (enc := enc13) (dec := dec13) (tbl := []) (fun s => rfl) Go.Proofs.Try.func13 (by kernel_rfl) (by kernel_rfl) (by kernel_rfl) (fun k => les13)
  (List.forall_mem_nil _) (fun k s0 => .nil)
  (F := fun k s => FX13 k s.1.1 s.1.2.1 s.1.2.2.1) (fun k s r h => (e13 s).trans (b13 k s.1.1 s.1.2.1 s.1.2.2.1 r h)) k
theorem b101 (k : Nat) (x0 : ByteArray) : LeO (FX101 k x0) (B101 x0) := by
 show LeO (All.galoisref01_Valid.f x0) _
 unfold All.galoisref01_Valid.f; unfold B101; (try simp only [All.integer_zero.f, All.exact_stepAt.f, All.S24.f0, All.S24.f1, All.rd_T24, All.z24]); exact BR
theorem ok101 (k : Nat) : FeOk Go.Proofs.Try.prog (fe101 (FX101 k)) :=
 fe_ok EOK HM (es := fun k => fes101) (fun k => List.forall_mem_nil _) (N := 10) (an := an101) (c := cd101) (f := 101) (fn := Go.Proofs.Try.f101) (rms := rm101) (ask := ask101) (rsk := rsk101) (enc := enc101) (dec := dec101) (tbl := []) (fun s => rfl) Go.Proofs.Try.func101 (by kernel_rfl) (by kernel_rfl) (by kernel_rfl) (fun k => les101)
  (List.forall_mem_nil _) (fun k s0 => .nil)
  (F := fun k s => FX101 k s.1.1) (fun k s r h => (e101 s).trans (b101 k s.1.1 r h)) k
theorem b58 (k : Nat) (x0 : (Bool × ByteArray)) : LeO (FX58 k x0) (B58 (FX101 k) x0) := by
 show LeO (All.galoisref02_Valid.f x0.1 x0.2) _
 unfold All.galoisref02_Valid.f; unfold B58; (try simp only [FX101, All.integer_zero.f, All.exact_stepAt.f, All.S24.f0, All.S24.f1, All.rd_T24, All.z24]); exact BR
theorem ok58 (k : Nat) : FeOk Go.Proofs.Try.prog (fe58 (FX58 k)) :=
 fe_ok EOK HM (es := fun k => fes58 (FX101 k)) (fun k => List.forall_mem_cons.2 ⟨ok101 k, List.forall_mem_nil _⟩) (N := 16) (an := an58) (c := cd58) (f := 58) (fn := Go.Proofs.Try.f58) (rms := rm58) (ask := ask58) (rsk := rsk58) (enc := enc58) (dec := dec58) (tbl := []) (fun s => rfl) Go.Proofs.Try.func58 (by kernel_rfl) (by kernel_rfl) (by kernel_rfl) (fun k => les58)
  (List.forall_mem_nil _) (fun k s0 => .nil)
  (F := fun k s => FX58 k s.1.1) (fun k s r h => (e58 (FX101 k) s).trans (b58 k s.1.1 r h)) k
theorem b102 (k : Nat) (x0 : ByteArray) : LeO (FX102 k x0) (B102 x0) := by
 show LeO (All.galoisref01_Fits.f x0) _
 unfold All.galoisref01_Fits.f; unfold B102; (try simp only [All.integer_zero.f, All.exact_stepAt.f, All.S24.f0, All.S24.f1, All.rd_T24, All.z24]); exact BR
theorem ok102 (k : Nat) : FeOk Go.Proofs.Try.prog (fe102 (FX102 k)) :=
 fe_ok EOK HM (es := fun k => fes102) (fun k => List.forall_mem_nil _) (N := 6) (an := an102) (c := cd102) (f := 102) (fn := Go.Proofs.Try.f102) (rms := rm102) (ask := ask102) (rsk := rsk102) (enc := enc102) (dec := dec102) (tbl := []) (fun s => rfl) Go.Proofs.Try.func102 (by kernel_rfl) (by kernel_rfl) (by kernel_rfl) (fun k => les102)
  (List.forall_mem_nil _) (fun k s0 => .nil)
  (F := fun k s => FX102 k s.1.1) (fun k s r h => (e102 s).trans (b102 k s.1.1 r h)) k
theorem b59 (k : Nat) (x0 : (Bool × ByteArray)) : LeO (FX59 k x0) (B59 (FX102 k) x0) := by
 show LeO (All.galoisref02_Fits.f x0.1 x0.2) _
 unfold All.galoisref02_Fits.f; unfold B59; (try simp only [FX102, All.integer_zero.f, All.exact_stepAt.f, All.S24.f0, All.S24.f1, All.rd_T24, All.z24]); exact BR
theorem ok59 (k : Nat) : FeOk Go.Proofs.Try.prog (fe59 (FX59 k)) :=
 fe_ok EOK HM (es := fun k => fes59 (FX102 k)) (fun k => List.forall_mem_cons.2 ⟨ok102 k, List.forall_mem_nil _⟩) (N := 6) (an := an59) (c := cd59) (f := 59) (fn := Go.Proofs.Try.f59) (rms := rm59) (ask := ask59) (rsk := rsk59) (enc := enc59) (dec := dec59) (tbl := []) (fun s => rfl) Go.Proofs.Try.func59 (by kernel_rfl) (by kernel_rfl) (by kernel_rfl) (fun k => les59)
  (List.forall_mem_nil _) (fun k s0 => .nil)
  (F := fun k s => FX59 k s.1.1) (fun k s r h => (e59 (FX102 k) s).trans (b59 k s.1.1 r h)) k
theorem b17 (k : Nat) (x0 : (Bool × ByteArray)) : LeO (FX17 k x0) (B17 (FX58 k) (FX59 k) x0) := by
 show LeO (All.galoisref02_Check.f x0.1 x0.2) _
 unfold All.galoisref02_Check.f; unfold B17; (try simp only [FX58, FX59, All.integer_zero.f, All.exact_stepAt.f, All.S24.f0, All.S24.f1, All.rd_T24, All.z24]); exact BR
theorem ok17 (k : Nat) : FeOk Go.Proofs.Try.prog (fe17 (FX17 k)) :=
 fe_ok EOK HM (es := fun k => fes17 (FX58 k) (FX59 k)) (fun k => List.forall_mem_cons.2 ⟨ok58 k, List.forall_mem_cons.2 ⟨ok59 k, List.forall_mem_nil _⟩⟩) (N := 8) (an := an17) (c := cd17) (f := 17) (fn := Go.Proofs.Try.f17) (rms := rm17) (ask := ask17) (rsk := rsk17) (enc := enc17) (dec := dec17) (tbl := []) (fun s => rfl) Go.Proofs.Try.func17 (by kernel_rfl) (by kernel_rfl) (by kernel_rfl) (fun k => les17)
  (List.forall_mem_nil _) (fun k s0 => .nil)
  (F := fun k s => FX17 k s.1.1) (fun k s r h => (e17 (FX58 k) (FX59 k) s).trans (b17 k s.1.1 r h)) k
theorem b18 (k : Nat) (x0 : (Bool × ByteArray)) (x1 : (Bool × ByteArray)) : LeO (FX18 k x0 x1) (B18 (FX17 k) x0 x1) := by
 show LeO (All.galoislaw02_expected.f x0.1 x0.2 x1.1 x1.2) _
 unfold All.galoislaw02_expected.f; unfold B18; (try simp only [FX17, All.integer_zero.f, All.exact_stepAt.f, All.S24.f0, All.S24.f1, All.rd_T24, All.z24]); exact BR
theorem ok18 (k : Nat) : FeOk Go.Proofs.Try.prog (fe18 (FX18 k)) :=
 fe_ok EOK HM (es := fun k => fes18 (FX17 k)) (fun k => List.forall_mem_cons.2 ⟨ok17 k, List.forall_mem_nil _⟩) (N := 12) (an := an18) (c := cd18) (f := 18) (fn := Go.Proofs.Try.f18) (rms := rm18) (ask := ask18) (rsk := rsk18) (enc := enc18) (dec := dec18) (tbl := []) (fun s => rfl) Go.Proofs.Try.func18 (by kernel_rfl) (by kernel_rfl) (by kernel_rfl) (fun k => les18)
  (List.forall_mem_nil _) (fun k s0 => .nil)
  (F := fun k s => FX18 k s.1.1 s.1.2.1) (fun k s r h => (e18 (FX17 k) s).trans (b18 k s.1.1 s.1.2.1 r h)) k
end Go.Proofs.YtdhdfcjpeflinaaV
set_option linter.unusedVariables false
set_option linter.unusedSimpArgs false
set_option maxRecDepth 100000
namespace Go.Proofs.YtdhdfcjpeflinaaV
open Go Go.RowKit Go.Proofs.Ytdhdfcjpeflinaa Go.Proofs.YtdhdfcjpeflinaaE Go.Proofs.YtdhdfcjpeflinaaW.PrintWords Go.Proofs.YtdhdfcjpeflinaaW.PrintLast Go.Proofs.YtdhdfcjpeflinaaW.PrintMore
theorem b72 (k : Nat) (x0 : (Bool × ByteArray)) (x1 : (Bool × ByteArray)) : LeO (FX72 k x0 x1) (B72 (FX98 k) (FX108 k) x0 x1) := by
 show LeO (All.exact_IntMul.f k x0.1 x0.2 x1.1 x1.2) _
 unfold All.exact_IntMul.f; unfold B72; (try simp only [FX98, FX108, All.integer_zero.f, All.exact_stepAt.f, All.S24.f0, All.S24.f1, All.rd_T24, All.z24]); exact BR
theorem ok72 (k : Nat) : FeOk Go.Proofs.Try.prog (fe72 (FX72 k)) :=
 fe_ok EOK HM (es := fun k => fes72 (FX98 k) (FX108 k)) (fun k => List.forall_mem_cons.2 ⟨ok98 k, List.forall_mem_cons.2 ⟨ok108 k, List.forall_mem_nil _⟩⟩) (N := 16) (an := an72) (c := cd72) (f := 72) (fn := Go.Proofs.Try.f72) (rms := rm72) (ask := ask72) (rsk := rsk72) (enc := enc72) (dec := dec72) (tbl := []) (fun s => rfl) Go.Proofs.Try.func72 (by kernel_rfl) (by kernel_rfl) (by kernel_rfl) (fun k => les72)
  (List.forall_mem_nil _) (fun k s0 => .nil)
  (F := fun k s => FX72 k s.1.1 s.1.2.1) (fun k s r h => (e72 (FX98 k) (FX108 k) s).trans (b72 k s.1.1 s.1.2.1 r h)) k
theorem b71 (k : Nat) (x0 : (Bool × ByteArray)) (x1 : (Bool × ByteArray)) : LeO (FX71 k x0 x1) (B71 (FX72 k) x0 x1) := by exact LeO.refl _
theorem ok71 (k : Nat) : FeOk Go.Proofs.Try.prog (fe71 (FX71 k)) :=
 fe_ok EOK HM (es := fun k => fes71 (FX72 k)) (fun k => List.forall_mem_cons.2 ⟨ok72 k, List.forall_mem_nil _⟩) (N := 6) (an := an71) (c := cd71) (f := 71) (fn := Go.Proofs.Try.f71) (rms := rm71) (ask := ask71) (rsk := rsk71) (enc := enc71) (dec := dec71) (tbl := []) (fun s => rfl) Go.Proofs.Try.func71 (by kernel_rfl) (by kernel_rfl) (by kernel_rfl) (fun k => les71)
  (List.forall_mem_nil _) (fun k s0 => .nil)
  (F := fun k s => FX71 k s.1.1 s.1.2.1) (fun k s r h => (e71 (FX72 k) s).trans (b71 k s.1.1 s.1.2.1 r h)) k
theorem b99Mul (k : Nat) (x0 : ((Bool × ByteArray) × (Bool × ByteArray) × Unit)) (x1 : (List (Bool × ByteArray))) : LeO (FX99Mul k x0 x1) (B99Mul (FX52 k) (FX53 k) (FX71 k) x0 x1) := by exact LeO.refl _
theorem ok99Mul (k : Nat) : FeOk Go.Proofs.Try.prog (fe99Mul (FX99Mul k)) :=
 fe_ok EOK HM (es := fun k => fes99Mul (FX52 k) (FX53 k) (FX71 k)) (fun k => List.forall_mem_cons.2 ⟨ok52 k, List.forall_mem_cons.2 ⟨ok53 k, List.forall_mem_cons.2 ⟨ok71 k, List.forall_mem_nil _⟩⟩⟩) (N := 21) (an := an99Mul) (c := cd99Mul) (f := 99) (fn := Go.Proofs.Try.f99) (rms := rm99Mul) (ask := ask99Mul) (rsk := rsk99Mul) (enc := enc99Mul) (dec := dec99Mul) (tbl := []) (fun s => rfl) Go.Proofs.Try.func99 (by kernel_rfl) (by kernel_rfl) (by kernel_rfl) (fun k => les99Mul)
  (List.forall_mem_nil _) (fun k s0 => .nil)
  (F := fun k s => FX99Mul k s.1.1 s.1.2.1) (fun k s r h => (e99Mul (FX52 k) (FX53 k) (FX71 k) s).trans (b99Mul k s.1.1 s.1.2.1 r h)) k
theorem b25 (k : Nat) (x0 : (Bool × ByteArray)) (x1 : (Bool × ByteArray)) : LeO (FX25 k x0 x1) (B25 (FX55 k) (FX99Mul k) x0 x1) := by
 show LeO (All.integer_Mul.f k x0.1 x0.2 x1.1 x1.2) _
 unfold All.integer_Mul.f; unfold B25; (try simp only [FX55, FX99Mul, B55, B99Mul, B71, FX52, FX53, FX71, FX72, All.integer_zero.f, All.exact_stepAt.f, All.S24.f0, All.S24.f1, All.rd_T24, All.z24]); exact BR
theorem ok25 (k : Nat) : FeOk Go.Proofs.Try.prog (fe25 (FX25 k)) :=
 fe_ok EOK HM (es := fun k => fes25 (FX55 k) (FX99Mul k)) (fun k => List.forall_mem_cons.2 ⟨ok55 k, List.forall_mem_cons.2 ⟨ok99Mul k, List.forall_mem_nil _⟩⟩) (N := 14) (an := an25) (c := cd25) (f := 25) (fn := Go.Proofs.Try.f25) (rms := rm25) (ask := ask25) (rsk := rsk25) (enc := enc25) (dec := dec25) (tbl := []) (fun s => rfl) Go.Proofs.Try.func25 (by kernel_rfl) (by kernel_rfl) (by kernel_rfl) (fun k => les25)
  (List.forall_mem_nil _) (fun k s0 => .nil)
  (F := fun k s => FX25 k s.1.1 s.1.2.1) (fun k s r h => (e25 (FX55 k) (FX99Mul k) s).trans (b25 k s.1.1 s.1.2.1 r h)) k
theorem b74 (k : Nat) (x0 : (Bool × ByteArray)) (x1 : (Bool × ByteArray)) : LeO (FX74 k x0 x1) (B74 (FX95 k) (FX97 k) (FX98 k) (FX109 k) x0 x1) := by
 show LeO (All.exact_IntAdd.f k x0.1 x0.2 x1.1 x1.2) _
 unfold All.exact_IntAdd.f; unfold B74; (try simp only [FX95, FX97, FX98, FX109, All.integer_zero.f, All.exact_stepAt.f, All.S24.f0, All.S24.f1, All.rd_T24, All.z24]); exact BR
theorem ok74 (k : Nat) : FeOk Go.Proofs.Try.prog (fe74 (FX74 k)) :=
 fe_ok EOK HM (es := fun k => fes74 (FX95 k) (FX97 k) (FX98 k) (FX109 k)) (fun k => List.forall_mem_cons.2 ⟨ok95 k, List.forall_mem_cons.2 ⟨ok97 k, List.forall_mem_cons.2 ⟨ok98 k, List.forall_mem_cons.2 ⟨ok109 k, List.forall_mem_nil _⟩⟩⟩⟩) (N := 42) (an := an74) (c := cd74) (f := 74) (fn := Go.Proofs.Try.f74) (rms := rm74) (ask := ask74) (rsk := rsk74) (enc := enc74) (dec := dec74) (tbl := []) (fun s => rfl) Go.Proofs.Try.func74 (by kernel_rfl) (by kernel_rfl) (by kernel_rfl) (fun k => les74)
  (List.forall_mem_nil _) (fun k s0 => .nil)
  (F := fun k s => FX74 k s.1.1 s.1.2.1) (fun k s r h => (e74 (FX95 k) (FX97 k) (FX98 k) (FX109 k) s).trans (b74 k s.1.1 s.1.2.1 r h)) k
theorem b73 (k : Nat) (x0 : (Bool × ByteArray)) (x1 : (Bool × ByteArray)) : LeO (FX73 k x0 x1) (B73 (FX74 k) x0 x1) := by exact LeO.refl _
theorem ok73 (k : Nat) : FeOk Go.Proofs.Try.prog (fe73 (FX73 k)) :=
 fe_ok EOK HM (es := fun k => fes73 (FX74 k)) (fun k => List.forall_mem_cons.2 ⟨ok74 k, List.forall_mem_nil _⟩) (N := 6) (an := an73) (c := cd73) (f := 73) (fn := Go.Proofs.Try.f73) (rms := rm73) (ask := ask73) (rsk := rsk73) (enc := enc73) (dec := dec73) (tbl := []) (fun s => rfl) Go.Proofs.Try.func73 (by kernel_rfl) (by kernel_rfl) (by kernel_rfl) (fun k => les73)
  (List.forall_mem_nil _) (fun k s0 => .nil)
  (F := fun k s => FX73 k s.1.1 s.1.2.1) (fun k s r h => (e73 (FX74 k) s).trans (b73 k s.1.1 s.1.2.1 r h)) k
theorem b99Add (k : Nat) (x0 : ((Bool × ByteArray) × (Bool × ByteArray) × Unit)) (x1 : (List (Bool × ByteArray))) : LeO (FX99Add k x0 x1) (B99Add (FX52 k) (FX53 k) (FX73 k) x0 x1) := by exact LeO.refl _
theorem ok99Add (k : Nat) : FeOk Go.Proofs.Try.prog (fe99Add (FX99Add k)) :=
 fe_ok EOK HM (es := fun k => fes99Add (FX52 k) (FX53 k) (FX73 k)) (fun k => List.forall_mem_cons.2 ⟨ok52 k, List.forall_mem_cons.2 ⟨ok53 k, List.forall_mem_cons.2 ⟨ok73 k, List.forall_mem_nil _⟩⟩⟩) (N := 21) (an := an99Add) (c := cd99Add) (f := 99) (fn := Go.Proofs.Try.f99) (rms := rm99Add) (ask := ask99Add) (rsk := rsk99Add) (enc := enc99Add) (dec := dec99Add) (tbl := []) (fun s => rfl) Go.Proofs.Try.func99 (by kernel_rfl) (by kernel_rfl) (by kernel_rfl) (fun k => les99Add)
  (List.forall_mem_nil _) (fun k s0 => .nil)
  (F := fun k s => FX99Add k s.1.1 s.1.2.1) (fun k s r h => (e99Add (FX52 k) (FX53 k) (FX73 k) s).trans (b99Add k s.1.1 s.1.2.1 r h)) k
theorem b26 (k : Nat) (x0 : (Bool × ByteArray)) (x1 : (Bool × ByteArray)) : LeO (FX26 k x0 x1) (B26 (FX55 k) (FX99Add k) x0 x1) := by
 show LeO (All.integer_Add.f k x0.1 x0.2 x1.1 x1.2) _
 unfold All.integer_Add.f; unfold B26; (try simp only [FX55, FX99Add, B55, B99Add, B73, FX52, FX53, FX73, FX74, All.integer_zero.f, All.exact_stepAt.f, All.S24.f0, All.S24.f1, All.rd_T24, All.z24]); exact BR
theorem ok26 (k : Nat) : FeOk Go.Proofs.Try.prog (fe26 (FX26 k)) :=
 fe_ok EOK HM (es := fun k => fes26 (FX55 k) (FX99Add k)) (fun k => List.forall_mem_cons.2 ⟨ok55 k, List.forall_mem_cons.2 ⟨ok99Add k, List.forall_mem_nil _⟩⟩) (N := 14) (an := an26) (c := cd26) (f := 26) (fn := Go.Proofs.Try.f26) (rms := rm26) (ask := ask26) (rsk := rsk26) (enc := enc26) (dec := dec26) (tbl := []) (fun s => rfl) Go.Proofs.Try.func26 (by kernel_rfl) (by kernel_rfl) (by kernel_rfl) (fun k => les26)
  (List.forall_mem_nil _) (fun k s0 => .nil)
  (F := fun k s => FX26 k s.1.1 s.1.2.1) (fun k s r h => (e26 (FX55 k) (FX99Add k) s).trans (b26 k s.1.1 s.1.2.1 r h)) k
theorem b79 (k : Nat) (x0 : (Bool × ByteArray)) (x1 : (Bool × ByteArray)) : LeO (FX79 k x0 x1) (B79 (FX109 k) x0 x1) := by
 show LeO (All.exact_IntCmp.f k x0.1 x0.2 x1.1 x1.2) _
 unfold All.exact_IntCmp.f; unfold B79; (try simp only [FX109, All.integer_zero.f, All.exact_stepAt.f, All.S24.f0, All.S24.f1, All.rd_T24, All.z24]); exact BR
theorem ok79 (k : Nat) : FeOk Go.Proofs.Try.prog (fe79 (FX79 k)) :=
 fe_ok EOK HM (es := fun k => fes79 (FX109 k)) (fun k => List.forall_mem_cons.2 ⟨ok109 k, List.forall_mem_nil _⟩) (N := 24) (an := an79) (c := cd79) (f := 79) (fn := Go.Proofs.Try.f79) (rms := rm79) (ask := ask79) (rsk := rsk79) (enc := enc79) (dec := dec79) (tbl := []) (fun s => rfl) Go.Proofs.Try.func79 (by kernel_rfl) (by kernel_rfl) (by kernel_rfl) (fun k => les79)
  (List.forall_mem_nil _) (fun k s0 => .nil)
  (F := fun k s => FX79 k s.1.1 s.1.2.1) (fun k s r h => (e79 (FX109 k) s).trans (b79 k s.1.1 s.1.2.1 r h)) k
theorem b31 (k : Nat) (x0 : (Bool × ByteArray)) (x1 : (Bool × ByteArray)) : LeO (FX31 k x0 x1) (B31 (FX52 k) (FX79 k) x0 x1) := by
 show LeO (All.integer_Compare.f k x0.1 x0.2 x1.1 x1.2) _
 unfold All.integer_Compare.f; unfold B31; (try simp only [FX52, FX79, All.integer_zero.f, All.exact_stepAt.f, All.S24.f0, All.S24.f1, All.rd_T24, All.z24]); exact BR
theorem ok31 (k : Nat) : FeOk Go.Proofs.Try.prog (fe31 (FX31 k)) :=
 fe_ok EOK HM (es := fun k => fes31 (FX52 k) (FX79 k)) (fun k => List.forall_mem_cons.2 ⟨ok52 k, List.forall_mem_cons.2 ⟨ok79 k, List.forall_mem_nil _⟩⟩) (N := 17) (an := an31) (c := cd31) (f := 31) (fn := Go.Proofs.Try.f31) (rms := rm31) (ask := ask31) (rsk := rsk31) (enc := enc31) (dec := dec31) (tbl := []) (fun s => rfl) Go.Proofs.Try.func31 (by kernel_rfl) (by kernel_rfl) (by kernel_rfl) (fun k => les31)
  (List.forall_mem_nil _) (fun k s0 => .nil)
  (F := fun k s => FX31 k s.1.1 s.1.2.1) (fun k s r h => (e31 (FX52 k) (FX79 k) s).trans (b31 k s.1.1 s.1.2.1 r h)) k
theorem b84 (k : Nat) (x0 : (Bool × ByteArray)) : LeO (FX84 k x0) (B84 (FX98 k) x0) := by
 show LeO (All.exact_IntNeg.f x0.1 x0.2) _
 unfold All.exact_IntNeg.f; unfold B84; (try simp only [FX98, All.integer_zero.f, All.exact_stepAt.f, All.S24.f0, All.S24.f1, All.rd_T24, All.z24]); exact BR
theorem ok84 (k : Nat) : FeOk Go.Proofs.Try.prog (fe84 (FX84 k)) :=
 fe_ok EOK HM (es := fun k => fes84 (FX98 k)) (fun k => List.forall_mem_cons.2 ⟨ok98 k, List.forall_mem_nil _⟩) (N := 9) (an := an84) (c := cd84) (f := 84) (fn := Go.Proofs.Try.f84) (rms := rm84) (ask := ask84) (rsk := rsk84) (enc := enc84) (dec := dec84) (tbl := []) (fun s => rfl) Go.Proofs.Try.func84 (by kernel_rfl) (by kernel_rfl) (by kernel_rfl) (fun k => les84)
  (List.forall_mem_nil _) (fun k s0 => .nil)
  (F := fun k s => FX84 k s.1.1) (fun k s r h => (e84 (FX98 k) s).trans (b84 k s.1.1 r h)) k
theorem b81 (k : Nat) (x0 : (Bool × ByteArray)) (x1 : (Bool × ByteArray)) : LeO (FX81 k x0 x1) (B81 (FX74 k) (FX84 k) x0 x1) := by
 show LeO (All.exact_IntSub.f k x0.1 x0.2 x1.1 x1.2) _
 unfold All.exact_IntSub.f; unfold B81; (try simp only [FX74, FX84, All.integer_zero.f, All.exact_stepAt.f, All.S24.f0, All.S24.f1, All.rd_T24, All.z24]); exact BR
theorem ok81 (k : Nat) : FeOk Go.Proofs.Try.prog (fe81 (FX81 k)) :=
 fe_ok EOK HM (es := fun k => fes81 (FX74 k) (FX84 k)) (fun k => List.forall_mem_cons.2 ⟨ok74 k, List.forall_mem_cons.2 ⟨ok84 k, List.forall_mem_nil _⟩⟩) (N := 9) (an := an81) (c := cd81) (f := 81) (fn := Go.Proofs.Try.f81) (rms := rm81) (ask := ask81) (rsk := rsk81) (enc := enc81) (dec := dec81) (tbl := []) (fun s => rfl) Go.Proofs.Try.func81 (by kernel_rfl) (by kernel_rfl) (by kernel_rfl) (fun k => les81)
  (List.forall_mem_nil _) (fun k s0 => .nil)
  (F := fun k s => FX81 k s.1.1 s.1.2.1) (fun k s r h => (e81 (FX74 k) (FX84 k) s).trans (b81 k s.1.1 s.1.2.1 r h)) k
theorem b80 (k : Nat) (x0 : (Bool × ByteArray)) (x1 : (Bool × ByteArray)) : LeO (FX80 k x0 x1) (B80 (FX81 k) x0 x1) := by exact LeO.refl _
theorem ok80 (k : Nat) : FeOk Go.Proofs.Try.prog (fe80 (FX80 k)) :=
 fe_ok EOK HM (es := fun k => fes80 (FX81 k)) (fun k => List.forall_mem_cons.2 ⟨ok81 k, List.forall_mem_nil _⟩) (N := 6) (an := an80) (c := cd80) (f := 80) (fn := Go.Proofs.Try.f80) (rms := rm80) (ask := ask80) (rsk := rsk80) (enc := enc80) (dec := dec80) (tbl := []) (fun s => rfl) Go.Proofs.Try.func80 (by kernel_rfl) (by kernel_rfl) (by kernel_rfl) (fun k => les80)
  (List.forall_mem_nil _) (fun k s0 => .nil)
  (F := fun k s => FX80 k s.1.1 s.1.2.1) (fun k s r h => (e80 (FX81 k) s).trans (b80 k s.1.1 s.1.2.1 r h)) k
theorem b99Sub (k : Nat) (x0 : ((Bool × ByteArray) × (Bool × ByteArray) × Unit)) (x1 : (List (Bool × ByteArray))) : LeO (FX99Sub k x0 x1) (B99Sub (FX52 k) (FX53 k) (FX80 k) x0 x1) := by exact LeO.refl _
theorem ok99Sub (k : Nat) : FeOk Go.Proofs.Try.prog (fe99Sub (FX99Sub k)) :=
 fe_ok EOK HM (es := fun k => fes99Sub (FX52 k) (FX53 k) (FX80 k)) (fun k => List.forall_mem_cons.2 ⟨ok52 k, List.forall_mem_cons.2 ⟨ok53 k, List.forall_mem_cons.2 ⟨ok80 k, List.forall_mem_nil _⟩⟩⟩) (N := 21) (an := an99Sub) (c := cd99Sub) (f := 99) (fn := Go.Proofs.Try.f99) (rms := rm99Sub) (ask := ask99Sub) (rsk := rsk99Sub) (enc := enc99Sub) (dec := dec99Sub) (tbl := []) (fun s => rfl) Go.Proofs.Try.func99 (by kernel_rfl) (by kernel_rfl) (by kernel_rfl) (fun k => les99Sub)
  (List.forall_mem_nil _) (fun k s0 => .nil)
  (F := fun k s => FX99Sub k s.1.1 s.1.2.1) (fun k s r h => (e99Sub (FX52 k) (FX53 k) (FX80 k) s).trans (b99Sub k s.1.1 s.1.2.1 r h)) k
theorem b32 (k : Nat) (x0 : (Bool × ByteArray)) (x1 : (Bool × ByteArray)) : LeO (FX32 k x0 x1) (B32 (FX55 k) (FX99Sub k) x0 x1) := by
 show LeO (All.integer_Sub.f k x0.1 x0.2 x1.1 x1.2) _
 unfold All.integer_Sub.f; unfold B32; (try simp only [FX55, FX99Sub, B55, B99Sub, B80, FX52, FX53, FX80, FX81, All.integer_zero.f, All.exact_stepAt.f, All.S24.f0, All.S24.f1, All.rd_T24, All.z24]); exact BR
theorem ok32 (k : Nat) : FeOk Go.Proofs.Try.prog (fe32 (FX32 k)) :=
 fe_ok EOK HM (es := fun k => fes32 (FX55 k) (FX99Sub k)) (fun k => List.forall_mem_cons.2 ⟨ok55 k, List.forall_mem_cons.2 ⟨ok99Sub k, List.forall_mem_nil _⟩⟩) (N := 14) (an := an32) (c := cd32) (f := 32) (fn := Go.Proofs.Try.f32) (rms := rm32) (ask := ask32) (rsk := rsk32) (enc := enc32) (dec := dec32) (tbl := []) (fun s => rfl) Go.Proofs.Try.func32 (by kernel_rfl) (by kernel_rfl) (by kernel_rfl) (fun k => les32)
  (List.forall_mem_nil _) (fun k s0 => .nil)
  (F := fun k s => FX32 k s.1.1 s.1.2.1) (fun k s r h => (e32 (FX55 k) (FX99Sub k) s).trans (b32 k s.1.1 s.1.2.1 r h)) k
end Go.Proofs.YtdhdfcjpeflinaaV
set_option linter.unusedVariables false
set_option linter.unusedSimpArgs false
set_option maxRecDepth 100000
namespace Go.Proofs.YtdhdfcjpeflinaaV
open Go Go.RowKit Go.Proofs.Ytdhdfcjpeflinaa Go.Proofs.YtdhdfcjpeflinaaE Go.Proofs.YtdhdfcjpeflinaaW.PrintWords Go.Proofs.YtdhdfcjpeflinaaW.PrintLast Go.Proofs.YtdhdfcjpeflinaaW.PrintMore
theorem b85 (k : Nat) (x0 : (Bool × ByteArray)) : LeO (FX85 k x0) (B85 (FX84 k) x0) := by exact LeO.refl _
theorem ok85 (k : Nat) : FeOk Go.Proofs.Try.prog (fe85 (FX85 k)) :=
 fe_ok EOK HM (es := fun k => fes85 (FX84 k)) (fun k => List.forall_mem_cons.2 ⟨ok84 k, List.forall_mem_nil _⟩) (N := 4) (an := an85) (c := cd85) (f := 85) (fn := Go.Proofs.Try.f85) (rms := rm85) (ask := ask85) (rsk := rsk85) (enc := enc85) (dec := dec85) (tbl := []) (fun s => rfl) Go.Proofs.Try.func85 (by kernel_rfl) (by kernel_rfl) (by kernel_rfl) (fun k => les85)
  (List.forall_mem_nil _) (fun k s0 => .nil)
  (F := fun k s => FX85 k s.1.1) (fun k s r h => (e85 (FX84 k) s).trans (b85 k s.1.1 r h)) k
theorem b99Neg (k : Nat) (x0 : ((Bool × ByteArray) × Unit)) (x1 : (List (Bool × ByteArray))) : LeO (FX99Neg k x0 x1) (B99Neg (FX52 k) (FX53 k) (FX85 k) x0 x1) := by exact LeO.refl _
theorem ok99Neg (k : Nat) : FeOk Go.Proofs.Try.prog (fe99Neg (FX99Neg k)) :=
 fe_ok EOK HM (es := fun k => fes99Neg (FX52 k) (FX53 k) (FX85 k)) (fun k => List.forall_mem_cons.2 ⟨ok52 k, List.forall_mem_cons.2 ⟨ok53 k, List.forall_mem_cons.2 ⟨ok85 k, List.forall_mem_nil _⟩⟩⟩) (N := 21) (an := an99Neg) (c := cd99Neg) (f := 99) (fn := Go.Proofs.Try.f99) (rms := rm99Neg) (ask := ask99Neg) (rsk := rsk99Neg) (enc := enc99Neg) (dec := dec99Neg) (tbl := []) (fun s => rfl) Go.Proofs.Try.func99 (by kernel_rfl) (by kernel_rfl) (by kernel_rfl) (fun k => les99Neg)
  (List.forall_mem_nil _) (fun k s0 => .nil)
  (F := fun k s => FX99Neg k s.1.1 s.1.2.1) (fun k s r h => (e99Neg (FX52 k) (FX53 k) (FX85 k) s).trans (b99Neg k s.1.1 s.1.2.1 r h)) k
theorem b40 (k : Nat) (x0 : (Bool × ByteArray)) : LeO (FX40 k x0) (B40 (FX55 k) (FX99Neg k) x0) := by
 show LeO (All.integer_Neg.f k x0.1 x0.2) _
 unfold All.integer_Neg.f; unfold B40; (try simp only [FX55, FX99Neg, B55, B99Neg, B85, FX52, FX53, FX84, FX85, All.integer_zero.f, All.exact_stepAt.f, All.S24.f0, All.S24.f1, All.rd_T24, All.z24]); exact BR
theorem ok40 (k : Nat) : FeOk Go.Proofs.Try.prog (fe40 (FX40 k)) :=
 fe_ok EOK HM (es := fun k => fes40 (FX55 k) (FX99Neg k)) (fun k => List.forall_mem_cons.2 ⟨ok55 k, List.forall_mem_cons.2 ⟨ok99Neg k, List.forall_mem_nil _⟩⟩) (N := 11) (an := an40) (c := cd40) (f := 40) (fn := Go.Proofs.Try.f40) (rms := rm40) (ask := ask40) (rsk := rsk40) (enc := enc40) (dec := dec40) (tbl := []) (fun s => rfl) Go.Proofs.Try.func40 (by kernel_rfl) (by kernel_rfl) (by kernel_rfl) (fun k => les40)
  (List.forall_mem_nil _) (fun k s0 => .nil)
  (F := fun k s => FX40 k s.1.1) (fun k s r h => (e40 (FX55 k) (FX99Neg k) s).trans (b40 k s.1.1 r h)) k
end Go.Proofs.YtdhdfcjpeflinaaV
set_option linter.unusedVariables false
set_option linter.unusedSimpArgs false
set_option maxRecDepth 100000
namespace Go.Proofs.YtdhdfcjpeflinaaV
open Go Go.RowKit Go.Proofs.Ytdhdfcjpeflinaa Go.Proofs.YtdhdfcjpeflinaaE Go.Proofs.YtdhdfcjpeflinaaW.PrintWords Go.Proofs.YtdhdfcjpeflinaaW.PrintLast Go.Proofs.YtdhdfcjpeflinaaW.PrintMore
end Go.Proofs.YtdhdfcjpeflinaaV
set_option linter.unusedVariables false
namespace Go.Proofs.YtdhdfcjpeflinaaE
open Go.RowKit
theorem calls_of_ct {P : Program} {f : Nat} {fn : Func} {c : Code} (hf : P.funcs[f]? = some fn) (hname : (fn.name == "runtime.NumGoroutine") = false) (hb : fn.body = some c) {asx : List V} {r : V} {us : Bl} (h : Ct P f asx [] r us) {vs : List Value}
  (hv : ∀ w bl φ, RepVs w bl φ asx vs) (hr : ∀ w bl φ v, RepV w bl φ r v → v = .bool true) (w : World) : Calls P f vs.toArray w fun e w' => e = .returned (.bool true) ∧ Below w.heap.size w w' := by
 have hm : Mem w (lentBo [] (fun _ => ⟨0, 0, some 0⟩)) (fun _ => .fresh) (fun _ => ⟨0, 0, some 0⟩) w :=
  ⟨fun n => trivial, (fun n m h => by obtain ⟨_, _, _, e⟩ := h; cases e), (fun n t l tl _ h => by cases h), Frame'.refl _ _⟩
 rcases h.2 w (fun _ => .fresh) (fun _ => ⟨0, 0, some 0⟩) vs (fun n _ => rfl) hm (hv _ _ _) with ⟨_, h1⟩ | ⟨v, w', h1, _⟩
 ·refine h1.mono fun e w' => ?_
  rintro ⟨v, rfl, φ', st, rv⟩
  have fr := st.mem.fr
  refine ⟨by rw [hr _ _ _ _ rv], fr.os, fr.tape, fr.output, fr.size, fun b hb => fr.block b hb fun o h => ?_⟩
  obtain ⟨n, t, l, tl, _, e, _⟩ := h
  cases e
 ·exfalso
  have e : (callFunc f vs.toArray).run P w = .ok (.enter f vs.toArray) w := by simp only [callFunc, Sem.run_bind, run_program, Result.andThen_ok, hf, hname, hb, Option.isNone_some, Bool.false_eq_true, if_false, Sem.run_pure]
  rw [e] at h1; cases h1
section
variable {w : World} {bl : Nat → Blk} {φ : Nat → Addr}
theorem rep_bs {x : Bool} {y : ByteArray} : RepV w bl φ (.a (.v (.ag (.pr .bo .st)) (x, y))) (.agg #[.bool x, .string y]) := ⟨[.bool x, .string y], ⟨[.bool x], [.string y], rfl, rfl, rfl⟩, rfl⟩
theorem rep_true {v : Value} (h : RepV w bl φ (.a (.v .bo true)) v) : v = .bool true := by
 obtain ⟨cs, h1, h2⟩ := h
 have h1 : cs = [.bool true] := h1
 subst h1
 have h2 : [Value.bool true] = [v] := h2
 cases h2; rfl
end
end Go.Proofs.YtdhdfcjpeflinaaE
namespace Go.Proofs.YtdhdfcjpeflinaaN
open Go Go.RowKit Go.Proofs.Ytdhdfcjpeflinaa.All Go.Proofs.YtdhdfcjpeflinaaW.PrintWords Go.Proofs.YtdhdfcjpeflinaaW.PrintLast Go.Proofs.YtdhdfcjpeflinaaW.PrintMore
theorem awake_at : galoislaw02_awake.f 70 = some true := by kernel_rfl
theorem awake_ev : Ev (fun k => galoislaw02_awake.f k) true := Ev.of (fun k => galoislaw02_awake.mono k) awake_at
end Go.Proofs.YtdhdfcjpeflinaaN
set_option linter.unusedVariables false
set_option linter.unusedSimpArgs false
set_option maxRecDepth 100000
namespace Go.Proofs.YtdhdfcjpeflinaaV
open Go Go.RowKit Go.Proofs.Ytdhdfcjpeflinaa Go.Proofs.YtdhdfcjpeflinaaE Go.Proofs.YtdhdfcjpeflinaaW.PrintWords Go.Proofs.YtdhdfcjpeflinaaW.PrintLast Go.Proofs.YtdhdfcjpeflinaaW.PrintMore
@[reducible] noncomputable def FX8 (k : Nat) (x0 : (Bool × ByteArray)) (x1 : (Bool × ByteArray)) (x2 : (Bool × ByteArray)) : Option R8 := B8 (FX12 k) (FX13 k) (FX17 k) (FX18 k) (FX25 k) (FX26 k) (FX31 k) (FX32 k) (FX40 k) x0 x1 x2
theorem b8 (k : Nat) (x0 : (Bool × ByteArray)) (x1 : (Bool × ByteArray)) (x2 : (Bool × ByteArray)) : LeO (FX8 k x0 x1 x2) (B8 (FX12 k) (FX13 k) (FX17 k) (FX18 k) (FX25 k) (FX26 k) (FX31 k) (FX32 k) (FX40 k) x0 x1 x2) := by exact LeO.refl _
theorem ok8 (k : Nat) : FeOk Go.Proofs.Try.prog (fe8 (FX8 k)) :=
 fe_ok EOK HM (es := fun k => fes8 (FX12 k) (FX13 k) (FX17 k) (FX18 k) (FX25 k) (FX26 k) (FX31 k) (FX32 k) (FX40 k)) (fun k => List.forall_mem_cons.2 ⟨ok12 k, List.forall_mem_cons.2 ⟨ok13 k, List.forall_mem_cons.2 ⟨ok17 k, List.forall_mem_cons.2 ⟨ok18 k, List.forall_mem_cons.2 ⟨ok25 k, List.forall_mem_cons.2 ⟨ok26 k, List.forall_mem_cons.2 ⟨ok31 k, List.forall_mem_cons.2 ⟨ok32 k, List.forall_mem_cons.2 ⟨ok40 k, List.forall_mem_nil _⟩⟩⟩⟩⟩⟩⟩⟩⟩) (N := 228) (an := an8) (c := cd8) (f := 8) (fn := Go.Proofs.Try.f8) (rms := rm8) (ask := ask8) (rsk := rsk8) (enc := enc8) (dec := dec8) (tbl := []) (fun s => rfl) Go.Proofs.Try.func8 (by kernel_rfl) (by kernel_rfl) (by kernel_rfl) (fun k => les8)
  (List.forall_mem_nil _) (fun k s0 => .nil)
  (F := fun k s => FX8 k s.1.1 s.1.2.1 s.1.2.2.1) (fun k s r h => (e8 (FX12 k) (FX13 k) (FX17 k) (FX18 k) (FX25 k) (FX26 k) (FX31 k) (FX32 k) (FX40 k) s).trans (b8 k s.1.1 s.1.2.1 s.1.2.2.1 r h)) k
theorem calls8 (a0 : Bool) (a1 : ByteArray) (b0 : Bool) (b1 : ByteArray) (c0 : Bool) (c1 : ByteArray) (h : ∃ k, FX8 k (a0, a1) (b0, b1) (c0, c1) = some true) (w : World) :
  Calls Go.Proofs.Try.prog 8 #[.agg #[.bool a0, .string a1], .agg #[.bool b0, .string b1], .agg #[.bool c0, .string c1]] w fun e w' => e = .returned (.bool true) ∧ Below w.heap.size w w' := by
 obtain ⟨k, hk⟩ := h
 have hc := ok8 k (((a0, a1), ((b0, b1), ((c0, c1), ()))), ()) true hk (.a (.v .bo true)) rfl
 exact calls_of_ct (vs := [.agg #[.bool a0, .string a1], .agg #[.bool b0, .string b1], .agg #[.bool c0, .string c1]]) Go.Proofs.Try.func8 (by kernel_rfl) (c := cd8) (by kernel_rfl) hc (fun w bl φ => .cons rep_bs (.cons rep_bs (.cons rep_bs (.nil)))) (fun w bl φ v h => rep_true h) w
end Go.Proofs.YtdhdfcjpeflinaaV
set_option linter.unusedVariables false
namespace Go.Proofs.YtdhdfcjpeflinaaN
open Go.Proofs.YtdhdfcjpeflinaaW.PrintWords
def vB (B : Int) : List Int → Int
 | [] => 0
 | x :: xs => x + B * vB B xs
def Dig (B : Int) (l : List Int) : Prop := ∀ x, x ∈ l → 0 ≤ x ∧ x < B
def Trim (l : List Int) : Prop := 0 < l.length → rd l (l.length - 1 : Nat) ≠ 0
theorem vB_cons (B x : Int) (xs : List Int) : vB B (x :: xs) = x + B * vB B xs := rfl
theorem Dig_nil (B : Int) : Dig B [] := fun _ h => absurd h (List.not_mem_nil)
theorem Dig_cons {B x : Int} {xs : List Int} : Dig B (x :: xs) ↔ (0 ≤ x ∧ x < B) ∧ Dig B xs := by
 constructor
 ·intro h
  exact ⟨h x (List.mem_cons_self), fun y hy => h y (List.mem_cons_of_mem _ hy)⟩
 ·rintro ⟨h1, h2⟩ y hy
  rcases List.mem_cons.1 hy with rfl | hy
  ·exact h1
  ·exact h2 y hy
theorem Dig_take {B : Int} {xs : List Int} (h : Dig B xs) (n : Nat) : Dig B (xs.take n) := fun z hz => h z (List.mem_of_mem_take hz)
theorem Dig_drop {B : Int} {xs : List Int} (h : Dig B xs) (n : Nat) : Dig B (xs.drop n) := fun z hz => h z (List.mem_of_mem_drop hz)
theorem Dig_set {B : Int} {xs : List Int} (h : Dig B xs) (n : Nat) {v : Int} (h0 : 0 ≤ v) (h1 : v < B) : Dig B (xs.set n v) := by
 intro z hz
 rcases List.mem_or_eq_of_mem_set hz with hz | rfl
 ·exact h z hz
 ·exact ⟨h0, h1⟩
theorem Dig_replicate {B : Int} (hB : 0 < B) (n : Nat) : Dig B (List.replicate n 0) := by
 intro z hz
 rw [List.eq_of_mem_replicate hz]
 exact ⟨Int.le_refl _, hB⟩
theorem Dig_reverse {B : Int} {xs : List Int} (h : Dig B xs) : Dig B xs.reverse := fun z hz => h z (List.mem_reverse.1 hz)
theorem rd_nat (xs : List Int) (n : Nat) : rd xs (n : Int) = xs.getD n 0 := by simp [rd]
theorem rd_get (xs : List Int) (n : Nat) (h : n < xs.length) : rd xs (n : Int) = xs[n] := by
 rw [rd_nat, List.getD_eq_getElem?_getD, List.getElem?_eq_getElem h]
 rfl
theorem Dig_rd {B : Int} {xs : List Int} (h : Dig B xs) (n : Nat) (hn : n < xs.length) : 0 ≤ rd xs (n : Int) ∧ rd xs (n : Int) < B := by
 rw [rd_get xs n hn]
 exact h _ (List.getElem_mem hn)
theorem Dig_rd0 {B : Int} (hB : 0 < B) {xs : List Int} (h : Dig B xs) (n : Nat) : 0 ≤ rd xs (n : Int) ∧ rd xs (n : Int) < B := by
 rcases Nat.lt_or_ge n xs.length with hn | hn
 ·exact Dig_rd h n hn
 ·rw [rd_nat, List.getD_eq_getElem?_getD, List.getElem?_eq_none hn]
  exact ⟨Int.le_refl _, hB⟩
theorem vB_append (B : Int) (xs ys : List Int) : vB B (xs ++ ys) = vB B xs + B ^ xs.length * vB B ys := by
 induction xs with
 | nil => simp [vB]
 | cons x xs ih =>
  rw [List.cons_append, vB_cons, ih, vB_cons, List.length_cons, Int.pow_succ, Int.mul_add, ← Int.add_assoc, ← Int.mul_assoc, Int.mul_comm B (B ^ xs.length)]
theorem vB_replicate (B : Int) (n : Nat) : vB B (List.replicate n 0) = 0 := by
 induction n with
 | zero => rfl
 | succ n ih => rw [List.replicate_succ, vB_cons, ih]; simp
theorem vB_nonneg {B : Int} (hB : 0 ≤ B) {l : List Int} (h : Dig B l) : 0 ≤ vB B l := by
 induction l with
 | nil => exact Int.le_refl _
 | cons x xs ih =>
  have := Dig_cons.1 h
  rw [vB_cons]
  exact Int.add_nonneg this.1.1 (Int.mul_nonneg hB (ih this.2))
theorem vB_lt {B : Int} (hB : 0 < B) {l : List Int} (h : Dig B l) : vB B l < B ^ l.length := by
 induction l with
 | nil => simp [vB]
 | cons x xs ih =>
  have hd := Dig_cons.1 h
  have h1 := ih hd.2
  rw [vB_cons, List.length_cons, Int.pow_succ, Int.mul_comm (B ^ xs.length) B]
  have h2 : B * (vB B xs + 1) ≤ B * B ^ xs.length := Int.mul_le_mul_of_nonneg_left (by omega) (by omega)
  rw [Int.mul_add, Int.mul_one] at h2
  omega
theorem vB_split (B : Int) (l : List Int) (n : Nat) (h : n ≤ l.length) : vB B l = vB B (l.take n) + B ^ n * vB B (l.drop n) := by
 conv => lhs; rw [← List.take_append_drop n l]
 rw [vB_append, List.length_take, Nat.min_eq_left h]
theorem vB_take_succ (B : Int) (l : List Int) (n : Nat) (h : n < l.length) : vB B (l.take (n + 1)) = vB B (l.take n) + B ^ n * rd l (n : Int) := by
 rw [List.take_succ_eq_append_getElem h, vB_append, List.length_take, Nat.min_eq_left (by omega), rd_get l n h]
 simp [vB]
theorem vB_set (B : Int) (l : List Int) (n : Nat) (v : Int) (h : n < l.length) : vB B (l.set n v) = vB B l + B ^ n * (v - rd l (n : Int)) := by
 induction l generalizing n with
 | nil => simp at h
 | cons x xs ih =>
  cases n with
  | zero => simp [vB, rd]; omega
  | succ n =>
   have h' : n < xs.length := by simpa using h
   rw [List.set_cons_succ, vB_cons, ih n h', vB_cons]
   have : rd (x :: xs) ((n + 1 : Nat) : Int) = rd xs (n : Int) := by rw [rd_nat, rd_nat]; simp
   rw [this, Int.pow_succ, Int.mul_add, ← Int.add_assoc, ← Int.mul_assoc, Int.mul_comm B (B ^ n)]
theorem rd_set_self (l : List Int) (n : Nat) (v : Int) (h : n < l.length) : rd (l.set n v) (n : Int) = v := by
 rw [rd_get _ n (by simpa using h), List.getElem_set_self]
theorem rd_set_ne (l : List Int) (n m : Nat) (v : Int) (h : n ≠ m) : rd (l.set n v) (m : Int) = rd l (m : Int) := by
 rw [rd_nat, rd_nat, List.getD_eq_getElem?_getD, List.getD_eq_getElem?_getD, List.getElem?_set_ne h]
theorem rd_take (xs : List Int) (n m : Nat) (h : m < n) : rd (xs.take n) (m : Int) = rd xs (m : Int) := by
 rw [rd_nat, rd_nat, List.getD_eq_getElem?_getD, List.getD_eq_getElem?_getD, List.getElem?_take_of_lt h]
theorem rd_drop (xs : List Int) (n m : Nat) : rd (xs.drop n) (m : Int) = rd xs ((n + m : Nat) : Int) := by
 rw [rd_nat, rd_nat, List.getD_eq_getElem?_getD, List.getD_eq_getElem?_getD, List.getElem?_drop]
theorem rd_replicate (n m : Nat) : rd (List.replicate n 0) (m : Int) = 0 := by
 rw [rd_nat, List.getD_eq_getElem?_getD, List.getElem?_replicate]
 split <;> rfl
theorem dig_inj {B : Int} (hB : 0 < B) : ∀ {l m : List Int}, Dig B l → Dig B m → l.length = m.length → vB B l = vB B m → l = m
 | [], [], _, _, _, _ => rfl
 | [], y :: ys, _, _, h, _ => by simp at h
 | x :: xs, [], _, _, h, _ => by simp at h
 | x :: xs, y :: ys, hl, hm, h, hv => by
  have h1 := Dig_cons.1 hl
  have h2 := Dig_cons.1 hm
  rw [vB_cons, vB_cons] at hv
  have hx : x = y := by
   have e1 : (x + B * vB B xs) % B = x := by rw [Int.add_mul_emod_self_left, Int.emod_eq_of_lt h1.1.1 h1.1.2]
   have e2 : (y + B * vB B ys) % B = y := by rw [Int.add_mul_emod_self_left, Int.emod_eq_of_lt h2.1.1 h2.1.2]
   rw [← e1, ← e2, hv]
  subst hx
  have hv' : B * vB B xs = B * vB B ys := by omega
  have := Int.eq_of_mul_eq_mul_left (by omega) hv'
  rw [dig_inj hB h1.2 h2.2 (by simpa using h) this]
theorem trim_le {B : Int} (hB : 0 < B) {l : List Int} (h : Dig B l) (ht : Trim l) (hp : 0 < l.length) : B ^ (l.length - 1) ≤ vB B l := by
 have e : l.take (l.length - 1 + 1) = l := List.take_of_length_le (by omega)
 have h1 := vB_take_succ B l (l.length - 1) (by omega)
 rw [e] at h1
 rw [h1]
 have h2 := vB_nonneg (Int.le_of_lt hB) (Dig_take h (l.length - 1))
 have h3 := (Dig_rd h (l.length - 1) (by omega)).1
 have h4 : 1 ≤ rd l ((l.length - 1 : Nat) : Int) := by have := ht hp; omega
 have h5 : B ^ (l.length - 1) * 1 ≤ B ^ (l.length - 1) * rd l ((l.length - 1 : Nat) : Int) := Int.mul_le_mul_of_nonneg_left h4 (Int.le_of_lt (Int.pow_pos hB))
 rw [Int.mul_one] at h5
 omega
theorem pow_le_pow {B : Int} (hB : 0 < B) {m n : Nat} (h : m ≤ n) : B ^ m ≤ B ^ n := by
 obtain ⟨j, rfl⟩ : ∃ j, n = m + j := ⟨n - m, by omega⟩
 rw [Int.pow_add]
 have h1 : 1 ≤ B ^ j := by have : 0 < B ^ j := Int.pow_pos hB; omega
 have h2 : B ^ m * 1 ≤ B ^ m * B ^ j := Int.mul_le_mul_of_nonneg_left h1 (Int.le_of_lt (Int.pow_pos hB))
 rwa [Int.mul_one] at h2
theorem trim_len {B : Int} (hB : 0 < B) {l m : List Int} (hl : Dig B l) (hm : Dig B m) (ht : Trim m) (h : l.length < m.length) : vB B l < vB B m := by
 have h1 := vB_lt hB hl
 have h2 := trim_le hB hm ht (by omega)
 have h3 := pow_le_pow hB (show l.length ≤ m.length - 1 by omega)
 omega
theorem trim_inj {B : Int} (hB : 0 < B) {l m : List Int} (hl : Dig B l) (hm : Dig B m) (tl : Trim l) (tm : Trim m) (hv : vB B l = vB B m) : l = m := by
 rcases Nat.lt_trichotomy l.length m.length with h | h | h
 ·have := trim_len hB hl hm tm h; omega
 ·exact dig_inj hB hl hm h hv
 ·have := trim_len hB hm hl tl h; omega
def dgs (b : Nat) (n : Nat) : List Int :=
 if h : n = 0 then [] else ((n % (b + 2) : Nat) : Int) :: dgs b (n / (b + 2))
termination_by n
decreasing_by exact Nat.div_lt_self (by omega) (by omega)
theorem dgs_zero (b : Nat) : dgs b 0 = [] := by rw [dgs]; simp
theorem dgs_pos (b n : Nat) (h : n ≠ 0) : dgs b n = ((n % (b + 2) : Nat) : Int) :: dgs b (n / (b + 2)) := by rw [dgs]; simp [h]
theorem dgs_spec (b : Nat) : ∀ n, Dig (b + 2 : Nat) (dgs b n) ∧ Trim (dgs b n) ∧ vB (b + 2 : Nat) (dgs b n) = n := by
 intro n
 induction n using Nat.strongRecOn with
 | _ n ih =>
  by_cases h : n = 0
  ·subst h
   rw [dgs_zero]
   exact ⟨Dig_nil _, fun h => absurd h (by simp), rfl⟩
  ·obtain ⟨h1, h2, h3⟩ := ih (n / (b + 2)) (Nat.div_lt_self (by omega) (by omega))
   rw [dgs_pos b n h]
   have hm := Nat.mod_lt n (show 0 < b + 2 by omega)
   have hd := Nat.div_add_mod n (b + 2)
   refine ⟨Dig_cons.2 ⟨⟨by omega, by omega⟩, h1⟩, ?_, ?_⟩
   ·intro _
    by_cases hz : n / (b + 2) = 0
    ·rw [hz, dgs_zero]
     show rd [((n % (b + 2) : Nat) : Int)] ((0 : Nat) : Int) ≠ 0
     rw [hz] at hd
     have : ((n % (b + 2) : Nat) : Int) ≠ 0 := by omega
     simpa [rd] using this
    ·have hl : 0 < (dgs b (n / (b + 2))).length := by rw [dgs_pos _ _ hz]; simp
     have := h2 hl
     rw [List.length_cons, Nat.add_sub_cancel]
     obtain ⟨q, hq⟩ : ∃ q, (dgs b (n / (b + 2))).length = q + 1 := ⟨(dgs b (n / (b + 2))).length - 1, by omega⟩
     rw [hq] at this ⊢
     rw [rd_nat] at this ⊢
     simpa using this
   ·rw [vB_cons, h3]
    have : ((b + 2 : Nat) : Int) * ((n / (b + 2) : Nat) : Int) + ((n % (b + 2) : Nat) : Int) = n := by exact_mod_cast hd
    omega
theorem dgs_unique {b : Nat} {l : List Int} {n : Nat} (hl : Dig (b + 2 : Nat) l) (ht : Trim l) (hv : vB (b + 2 : Nat) l = n) : l = dgs b n := by
 obtain ⟨h1, h2, h3⟩ := dgs_spec b n
 exact trim_inj (by omega) hl h1 ht h2 (by rw [hv, h3])
theorem dgs_len {b n k : Nat} (h : n < (b + 2) ^ k) : (dgs b n).length ≤ k := by
 obtain ⟨h1, h2, h3⟩ := dgs_spec b n
 rcases Nat.lt_or_ge k (dgs b n).length with hk | hk
 ·have h4 := trim_le (by omega) h1 h2 (by omega)
  rw [h3] at h4
  have h5 := pow_le_pow (B := ((b + 2 : Nat) : Int)) (by omega) (show k ≤ (dgs b n).length - 1 by omega)
  have h6 : ((n : Nat) : Int) < ((b + 2 : Nat) : Int) ^ k := by exact_mod_cast h
  omega
 ·exact hk
theorem dgs_lt (b n : Nat) : n < (b + 2) ^ (dgs b n).length := by
 obtain ⟨h1, h2, h3⟩ := dgs_spec b n
 have := vB_lt (by omega) h1
 rw [h3] at this
 exact_mod_cast this
end Go.Proofs.YtdhdfcjpeflinaaN
set_option linter.unusedVariables false
namespace Go.Proofs.YtdhdfcjpeflinaaN
open Go.RowKit Go.Proofs.Ytdhdfcjpeflinaa.All Go.Proofs.YtdhdfcjpeflinaaW.PrintWords Go.Proofs.YtdhdfcjpeflinaaW.PrintLast Go.Proofs.YtdhdfcjpeflinaaW.PrintMore
theorem w64 {x : Int} (h0 : -9223372036854775808 ≤ x) (h1 : x < 9223372036854775808) : wrap64 x = x := by unfold wrap64; omega
theorem u64 {x : Int} (h0 : 0 ≤ x) (h1 : x < 18446744073709551616) : IntKind.u64.wrap x = x := by
 simp [IntKind.wrap, IntKind.bits, IntKind.signed]
 omega
theorem u64_mod (x : Int) : IntKind.u64.wrap x = x % 18446744073709551616 := by simp [IntKind.wrap, IntKind.bits, IntKind.signed]
abbrev B64 : Int := 18446744073709551616
def d64 (n : Nat) : List Int := dgs 18446744073709551614 n
theorem d64_dig (n : Nat) : Dig B64 (d64 n) := (dgs_spec 18446744073709551614 n).1
theorem d64_val (n : Nat) : vB B64 (d64 n) = n := (dgs_spec 18446744073709551614 n).2.2
theorem d64_unique {l : List Int} {n : Nat} (hl : Dig B64 l) (ht : Trim l) (hv : vB B64 l = n) : l = d64 n := dgs_unique hl ht hv
theorem d64_zero : d64 0 = [] := dgs_zero _
def d8 (n : Nat) : List Int := dgs 254 n
theorem d8_dig (n : Nat) : Dig 256 (d8 n) := (dgs_spec 254 n).1
theorem d8_trim (n : Nat) : Trim (d8 n) := (dgs_spec 254 n).2.1
theorem d8_val (n : Nat) : vB 256 (d8 n) = n := (dgs_spec 254 n).2.2
theorem d8_unique {l : List Int} {n : Nat} (hl : Dig 256 l) (ht : Trim l) (hv : vB 256 l = n) : l = d8 n := dgs_unique hl ht hv
def nat (n : Nat) : ByteArray := strOfNums (d8 n).reverse
theorem bytesOf_str {l : List Int} (h : Dig 256 l) : bytesOf (strOfNums l) = l := by
 unfold bytesOf
 rw [strOfNums_data, List.map_map]
 conv => rhs; rw [← List.map_id l]
 refine List.map_congr_left fun x hx => ?_
 have := h x hx
 simp [UInt8.toNat_ofNat']
 omega
theorem str_bytesOf (s : ByteArray) : strOfNums (bytesOf s) = s := by
 unfold strOfNums bytesOf
 rw [List.map_map]
 have : List.map ((fun n : Int => UInt8.ofNat n.toNat) ∘ fun b : UInt8 => (b.toNat : Int)) s.data.toList = s.data.toList := by
  conv => rhs; rw [← List.map_id s.data.toList]
  refine List.map_congr_left fun x _ => ?_
  simp
 rw [this]
theorem bytesOf_dig (s : ByteArray) : Dig 256 (bytesOf s) := by
 intro x hx
 unfold bytesOf at hx
 obtain ⟨b, _, rfl⟩ := List.mem_map.1 hx
 have := b.toNat_lt
 omega
theorem str_ext {s t : ByteArray} (h : bytesOf s = bytesOf t) : s = t := by rw [← str_bytesOf s, h, str_bytesOf]
theorem toList_ext {s t : ByteArray} : s.toList = t.toList ↔ s = t := by
 constructor
 ·intro h
  rw [ByteArray.toList_eq, ByteArray.toList_eq] at h
  cases s
  cases t
  congr
  exact Array.toList_inj.1 h
 ·rintro rfl; rfl
theorem toList_nil {s : ByteArray} : s.toList = [] ↔ s.size = 0 := by
 rw [ByteArray.toList_eq, ← List.length_eq_zero_iff, data_length]
theorem nat_bytes (n : Nat) : bytesOf (nat n) = (d8 n).reverse := bytesOf_str (Dig_reverse (d8_dig n))
theorem nat_size (n : Nat) : (nat n).size = (d8 n).length := by rw [← bytesOf_length, nat_bytes, List.length_reverse]
def bval (s : ByteArray) : Int := vB 256 (bytesOf s).reverse
theorem bval_nat (n : Nat) : bval (nat n) = n := by unfold bval; rw [nat_bytes, List.reverse_reverse, d8_val]
theorem bval_nonneg (s : ByteArray) : 0 ≤ bval s := vB_nonneg (by decide) (Dig_reverse (bytesOf_dig s))
theorem nat_inj {m n : Nat} : nat m = nat n ↔ m = n := by
 constructor
 ·intro h
  have := bval_nat m
  rw [h, bval_nat] at this
  omega
 ·rintro rfl; rfl
theorem rd_reverse (l : List Int) (n : Nat) (h : n < l.length) : rd l.reverse (n : Int) = rd l ((l.length - 1 - n : Nat) : Int) := by
 rw [rd_get _ n (by simpa using h), rd_get _ _ (by omega), List.getElem_reverse]
theorem bt_rd (s : ByteArray) (i : Int) : bt s i = rd (bytesOf s) i := (rd_bytesOf s i).symm
theorem wf_nat {s : ByteArray} (h : s.size = 0 ∨ bt s 0 ≠ 0) : s = nat (bval s).toNat := by
 apply str_ext
 rw [nat_bytes]
 have ht : Trim (bytesOf s).reverse := by
  intro hp
  rw [List.length_reverse] at hp ⊢
  rw [rd_reverse _ _ (by omega), bt_rd] at *
  rw [bytesOf_length] at hp
  have e : (bytesOf s).length - 1 - ((bytesOf s).length - 1) = 0 := by omega
  rw [e]
  rcases h with h | h
  ·omega
  ·exact h
 have := d8_unique (n := (bval s).toNat) (Dig_reverse (bytesOf_dig s)) ht (by have := bval_nonneg s; unfold bval at this ⊢; omega)
 rw [← this, List.reverse_reverse]
theorem nat_wf (n : Nat) : (nat n).size = 0 ∨ bt (nat n) 0 ≠ 0 := by
 rcases Nat.eq_zero_or_pos (d8 n).length with h | h
 ·left; rw [nat_size, h]
 ·right
  rw [bt_rd, nat_bytes]
  have := d8_trim n h
  have e := rd_reverse (d8 n) 0 (by omega)
  rw [show (d8 n).length - 1 - 0 = (d8 n).length - 1 by omega] at e
  rw [← e] at this
  exact this
theorem nat_zero : nat 0 = ⟨#[]⟩ := by unfold nat d8; rw [dgs_zero]; rfl
theorem nat_size_zero {n : Nat} : (nat n).size = 0 ↔ n = 0 := by
 constructor
 ·intro h
  rw [nat_size] at h
  have := d8_val n
  rw [List.eq_nil_of_length_eq_zero h] at this
  simp [vB] at this
  omega
 ·rintro rfl; rw [nat_zero]; rfl
theorem nat_size_le {n k : Nat} : (nat n).size ≤ k ↔ n < 256 ^ k := by
 rw [nat_size]
 constructor
 ·intro h
  exact Nat.lt_of_lt_of_le (dgs_lt 254 n) (Nat.pow_le_pow_right (by decide) h)
 ·intro h
  exact dgs_len h
theorem nat_lt_size (n : Nat) : n < 256 ^ (nat n).size := nat_size_le.1 (Nat.le_refl _)
theorem vB_zero (B : Int) : ∀ {l : List Int}, (∀ j : Nat, j < l.length → rd l (j : Int) = 0) → vB B l = 0
 | [], _ => rfl
 | x :: xs, h => by
  have h0 : x = 0 := h 0 (by simp)
  have := vB_zero B (l := xs) (fun j hj => by
   have := h (j + 1) (by simpa using hj)
   rw [rd_nat] at this ⊢
   simpa using this)
  rw [vB_cons, h0, this]
  simp
theorem vB_low (B : Int) {l : List Int} {n : Nat} (hn : n ≤ l.length) (h : ∀ j : Nat, n ≤ j → j < l.length → rd l (j : Int) = 0) : vB B l = vB B (l.take n) := by
 rw [vB_split B l n hn, vB_zero B (l := l.drop n) (fun j hj => by rw [rd_drop]; exact h _ (by omega) (by simp at hj; omega))]
 simp
theorem trim_l0 (l : List Int) (hd : Dig B64 l) (hl : l.length < 9223372036854775808) : ∀ n : Nat, n ≤ l.length → (∀ j : Nat, n ≤ j → j < l.length → rd l (j : Int) = 0) → Ev (fun k => exact_trim.l0 k l (n : Int)) (d64 (vB B64 l).toNat) := by
 have hv := vB_nonneg (by decide) hd
 intro n
 induction n with
 | zero =>
  intro hn h
  refine Ev.step (f := fun _ => some (d64 (vB B64 l).toNat)) (fun k => ?_) (Ev.now _)
  simp only [exact_trim.l0]
  rw [if_neg (by omega), if_pos (by omega), if_pos (by omega)]
  have := vB_low B64 hn h
  rw [this]
  simp [vB, d64_zero]
 | succ n ih =>
  intro hn h
  have e1 : wrap64 (((n + 1 : Nat) : Int) - 1) = (n : Int) := by rw [w64 (by omega) (by omega)]; omega
  by_cases hz : rd l (n : Int) = 0
  ·refine Ev.step (f := fun k => exact_trim.l0 k l (n : Int)) (fun k => ?_) (ih (by omega) (fun j hj hjl => ?_))
   ·simp only [exact_trim.l0, e1]
    rw [if_pos (by omega), if_pos (by omega), if_pos (by omega), if_pos hz]
   ·rcases Nat.lt_or_ge n j with hlt | hge
    ·exact h j hlt hjl
    ·have : j = n := by omega
     subst this
     exact hz
  ·refine Ev.step (f := fun _ => some (d64 (vB B64 l).toNat)) (fun k => ?_) (Ev.now _)
   simp only [exact_trim.l0, e1]
   rw [if_pos (by omega), if_pos (by omega), if_pos (by omega), if_neg hz, if_pos (by omega), if_pos (by omega)]
   congr 1
   have hlen : (l.take (n + 1)).length = n + 1 := by rw [List.length_take]; omega
   refine d64_unique (Dig_take hd _) (fun _ => ?_) ?_
   ·rw [Int.toNat_natCast, hlen, Nat.add_sub_cancel, rd_take l _ _ (by omega)]
    exact hz
   ·rw [Int.toNat_natCast, ← vB_low B64 hn h]
    omega
theorem trim_ev {l : List Int} (hd : Dig B64 l) (hl : l.length < 9223372036854775808) : Ev (fun k => exact_trim.f k l) (d64 (vB B64 l).toNat) :=
 trim_l0 l hd hl l.length (Nat.le_refl _) (fun j h1 h2 => absurd h1 (by omega))
end Go.Proofs.YtdhdfcjpeflinaaN
set_option linter.unusedVariables false
namespace Go.Proofs.YtdhdfcjpeflinaaN
open Go.RowKit Go.Proofs.Ytdhdfcjpeflinaa.All Go.Proofs.YtdhdfcjpeflinaaW.PrintWords Go.Proofs.YtdhdfcjpeflinaaW.PrintLast Go.Proofs.YtdhdfcjpeflinaaW.PrintMore
theorem wraps_u64 (n : Int) (h0 : 0 ≤ n) (h1 : n < 2 ^ 64) : IntKind.u64.wrap n = n := u64 h0 (by simpa using h1)
theorem pow8 (q r : Nat) : (B64 : Int) ^ q * 256 ^ r = 256 ^ (8 * q + r) := by
 have e : (256 : Int) ^ 8 = B64 := rfl
 rw [Int.pow_add, Int.pow_mul, e]
theorem high_succ (s : ByteArray) (i : Nat) (h : i < s.size) : vB 256 ((bytesOf s).take (i + 1)).reverse = bt s i + 256 * vB 256 ((bytesOf s).take i).reverse := by
 rw [List.take_succ_eq_append_getElem (by rw [bytesOf_length]; exact h), List.reverse_append, bt_rd, rd_get _ i (by rw [bytesOf_length]; exact h)]
 rfl
theorem high_all (s : ByteArray) : vB 256 ((bytesOf s).take s.size).reverse = bval s := by
 rw [List.take_of_length_le (by rw [bytesOf_length]; exact Nat.le_refl _)]
 rfl
theorem word_or (x c : Int) (r : Nat) (hr : r < 8) (hx0 : 0 ≤ x) (hx1 : x < B64) (hm : x % 256 ^ (r + 1) = 0) (hc0 : 0 ≤ c) (hc1 : c ≤ 255) :
  Go.bits .or .u64 x (shl .u64 (IntKind.u64.wrap c) (8 * r : Nat)) = x + c * 256 ^ r ∧ 0 ≤ x + c * 256 ^ r ∧ x + c * 256 ^ r < B64 ∧ (x + c * 256 ^ r) % 256 ^ r = 0 := by
 have h64 : (B64 : Int) = 18446744073709551616 := rfl
 have hs : shl .u64 (IntKind.u64.wrap c) (8 * r : Nat) = c * 256 ^ r := by
  unfold shl
  rw [u64 hc0 (by omega), Int.toNat_natCast]
  have : min (8 * r) IntKind.u64.bits = 8 * r := Nat.min_eq_left (by show 8 * r ≤ 64; omega)
  rw [this, Int.pow_mul]
  have e : (2 : Int) ^ 8 = 256 := rfl
  rw [e]
  apply u64
  ·exact Int.mul_nonneg hc0 (Int.le_of_lt (Int.pow_pos (by decide)))
  ·have : r = 0 ∨ r = 1 ∨ r = 2 ∨ r = 3 ∨ r = 4 ∨ r = 5 ∨ r = 6 ∨ r = 7 := by omega
   rcases this with rfl | rfl | rfl | rfl | rfl | rfl | rfl | rfl <;> omega
 rw [hs]
 have hb : 0 ≤ c * 256 ^ r ∧ c * 256 ^ r < 256 ^ (r + 1) ∧ 0 ≤ x + c * 256 ^ r ∧ x + c * 256 ^ r < B64 ∧ (x + c * 256 ^ r) % 256 ^ r = 0 ∧ c * 256 ^ r < 2 ^ 64 := by
  have : r = 0 ∨ r = 1 ∨ r = 2 ∨ r = 3 ∨ r = 4 ∨ r = 5 ∨ r = 6 ∨ r = 7 := by omega
  rcases this with rfl | rfl | rfl | rfl | rfl | rfl | rfl | rfl <;> (clear hs; simp only [B64] at hx1 ⊢; omega)
 refine ⟨?_, hb.2.2.1, hb.2.2.2.1, hb.2.2.2.2.1⟩
 have hp : (2 : Int) ^ (8 * (r + 1)) = 256 ^ (r + 1) := by rw [Int.pow_mul]; rfl
 exact bits_join .u64 64 (by decide) wraps_u64 (8 * (r + 1)) x (c * 256 ^ r) hx0 (by rw [hp]; exact hm) (by rw [h64] at hx1; simpa using hx1) hb.1 (by rw [hp]; exact hb.2.1) hb.2.2.2.2.2
theorem words_l0 (s : ByteArray) (hs : s.size ≤ 1099511627776) : ∀ (d i : Nat) (w : List Int), i + d = s.size → w.length = (s.size + 7) / 8 → Dig B64 w → vB B64 w = vB 256 ((bytesOf s).take i).reverse * 256 ^ d →
  (0 < d → rd w ((d - 1) / 8 : Nat) % 256 ^ ((d - 1) % 8 + 1) = 0 ∧ ∀ q : Nat, q < (d - 1) / 8 → rd w (q : Int) = 0) → Ev (fun k => exact_words.l0 k s w (s.size : Int) (i : Int)) (d64 (bval s).toNat) := by
 intro d
 induction d with
 | zero =>
  intro i w hi hl hd hv _
  have hi : i = s.size := by omega
  subst hi
  have hv' : vB B64 w = bval s := by rw [hv, high_all]; simp
  refine Ev.step (f := fun k => (exact_trim.f k w).bind fun t => some t) (fun k => ?_) (Ev.bind (trim_ev hd (by omega)) ?_)
  ·simp only [exact_words.l0]
   rw [if_neg (by omega)]
  ·rw [hv']
   exact Ev.now _
 | succ d ih =>
  intro i w hi hl hd hv hz
  obtain ⟨hz1, hz2⟩ := hz (by omega)
  rw [Nat.add_sub_cancel] at hz1 hz2
  have hq : d / 8 < w.length := by omega
  have hr : d % 8 < 8 := Nat.mod_lt _ (by decide)
  have e1 : wrap64 (Int.tdiv (wrap64 (wrap64 ((s.size : Int) - 1) - (i : Int))) 8) = ((d / 8 : Nat) : Int) := by
   rw [w64 (x := (s.size : Int) - 1) (by omega) (by omega), w64 (x := (s.size : Int) - 1 - (i : Int)) (by omega) (by omega)]
   have : (s.size : Int) - 1 - (i : Int) = (d : Int) := by omega
   rw [this, Int.tdiv_eq_ediv_of_nonneg (by omega), w64 (by omega) (by omega)]
   omega
  have e2 : wrap64 (8 * Int.tmod (wrap64 (wrap64 ((s.size : Int) - 1) - (i : Int))) 8) = ((8 * (d % 8) : Nat) : Int) := by
   rw [w64 (x := (s.size : Int) - 1) (by omega) (by omega), w64 (x := (s.size : Int) - 1 - (i : Int)) (by omega) (by omega)]
   have : (s.size : Int) - 1 - (i : Int) = (d : Int) := by omega
   rw [this, Int.tmod_eq_emod_of_nonneg (by omega), w64 (by omega) (by omega)]
   omega
  have e3 : wrap64 ((i : Int) + 1) = ((i + 1 : Nat) : Int) := by rw [w64 (by omega) (by omega)]; omega
  have c1 : (i : Int) < (s.size : Int) := by omega
  have c3 : ((d / 8 : Nat) : Int) < (w.length : Int) := Int.ofNat_lt.2 hq
  have c4 : 0 < (d / 8 : Nat) → d % 8 = 0 → (d - 1) / 8 = d / 8 - 1 := by omega
  have hi' : i + 1 + d = s.size := by omega
  obtain ⟨hx0, hx1⟩ := Dig_rd hd (d / 8) hq
  obtain ⟨hc0, hc1⟩ := bt_range s (i : Int)
  obtain ⟨ho, ho0, ho1, ho2⟩ := word_or (rd w ((d / 8 : Nat) : Int)) (bt s (i : Int)) (d % 8) hr hx0 hx1 hz1 hc0 hc1
  have hk : 8 * (d / 8) + d % 8 = d := Nat.div_add_mod d 8
  refine Ev.step (f := fun k => exact_words.l0 k s (w.set (d / 8) (rd w ((d / 8 : Nat) : Int) + bt s (i : Int) * 256 ^ (d % 8))) (s.size : Int) ((i + 1 : Nat) : Int)) (fun k => ?_) (ih (i + 1) _ hi' (by rw [List.length_set]; exact hl) (Dig_set hd _ ho0 ho1) ?_ ?_)
  ·simp only [exact_words.l0, e1, e2, e3]
   rw [if_pos c1, if_pos (Int.natCast_nonneg _), if_pos c3, if_pos (Int.natCast_nonneg _), if_pos c1, if_pos (Int.natCast_nonneg _), ho, Int.toNat_natCast]
  ·rw [vB_set _ _ _ _ hq, hv, high_succ s i (by omega)]
   have e : rd w ((d / 8 : Nat) : Int) + bt s (i : Int) * 256 ^ (d % 8) - rd w ((d / 8 : Nat) : Int) = 256 ^ (d % 8) * bt s (i : Int) := by
    rw [Int.mul_comm (256 ^ (d % 8))]; omega
   rw [e, ← Int.mul_assoc, pow8, hk, Int.pow_succ, Int.add_mul]
   generalize vB 256 ((bytesOf s).take i).reverse = H
   generalize (256 : Int) ^ d = P
   generalize bt s (i : Int) = c
   rw [Int.mul_comm P c, Int.add_comm, Int.mul_assoc 256 H P, Int.mul_comm P 256, ← Int.mul_assoc H 256 P, Int.mul_comm H 256, Int.mul_assoc 256 H P]
  ·intro hd0
   by_cases h0 : d % 8 = 0
   ·have h1 : (d - 1) / 8 = d / 8 - 1 := by omega
    have h2 : 0 < d / 8 := by omega
    rw [h1]
    refine ⟨?_, fun q hq' => ?_⟩
    ·rw [rd_set_ne _ _ _ _ (by omega), hz2 _ (by omega)]
     simp
    ·rw [rd_set_ne _ _ _ _ (by omega), hz2 _ (by omega)]
   ·have h1 : (d - 1) / 8 = d / 8 := by omega
    have h2 : (d - 1) % 8 + 1 = d % 8 := by omega
    rw [h1, h2]
    refine ⟨?_, fun q hq' => ?_⟩
    ·rw [rd_set_self _ _ _ hq]
     exact ho2
    ·rw [rd_set_ne _ _ _ _ (by omega), hz2 _ (by omega)]
theorem words_ev (s : ByteArray) (hs : s.size ≤ 1099511627776) : Ev (fun k => exact_words.f k s) (d64 (bval s).toNat) := by
 have e1 : wrap64 (Int.tdiv (wrap64 ((s.size : Int) + 7)) 8) = (((s.size + 7) / 8 : Nat) : Int) := by
  rw [w64 (x := (s.size : Int) + 7) (by omega) (by omega), Int.tdiv_eq_ediv_of_nonneg (by omega), w64 (by omega) (by omega)]
  omega
 refine Ev.congr (f := fun k => exact_words.l0 k s (List.replicate ((s.size + 7) / 8) 0) (s.size : Int) ((0 : Nat) : Int)) (fun k => ?_) (words_l0 s hs s.size 0 _ (by omega) (by simp) (Dig_replicate (by decide) _) ?_ ?_)
 ·unfold exact_words.f
  rw [e1, if_pos (by omega), Int.toNat_natCast, if_pos (by omega)]
  rfl
 ·rw [vB_replicate]
  simp [vB]
 ·intro _
  exact ⟨by rw [rd_replicate]; simp, fun q _ => rd_replicate _ _⟩
theorem words_nat {n : Nat} (hs : (nat n).size ≤ 1099511627776) : Ev (fun k => exact_words.f k (nat n)) (d64 n) := by
 have := words_ev (nat n) hs
 rwa [bval_nat, Int.toNat_natCast] at this
theorem set_reverse (l : List Int) (p : Nat) (v : Int) (h : p < l.length) : (l.set p v).reverse = l.reverse.set (l.length - 1 - p) v := by
 apply List.ext_getElem?
 intro j
 rcases Nat.lt_or_ge j l.length with hj | hj
 ·rw [List.getElem?_reverse (by rw [List.length_set]; exact hj), List.length_set, List.getElem?_set, List.getElem?_set, List.length_reverse]
  by_cases e : p = l.length - 1 - j
  ·have e' : l.length - 1 - p = j := by omega
   rw [if_pos e, if_pos h, if_pos e', if_pos (by omega)]
  ·have e' : ¬ l.length - 1 - p = j := by omega
   rw [if_neg e, if_neg e', List.getElem?_reverse hj]
 ·rw [List.getElem?_eq_none (by simp; omega), List.getElem?_eq_none (by simp; omega)]
theorem pack_l2 (b : List Int) (hd : Dig 256 b) (hb : b.length < 9223372036854775807) (n : Nat) (hv : vB 256 b.reverse = n) (hn : n ≠ 0) : ∀ (d i : Nat), i + d = b.length → (∀ j : Nat, j < i → rd b (j : Int) = 0) → Ev (fun k => exact_pack.l2 k b (i : Int)) (nat n) := by
 intro d
 induction d with
 | zero =>
  intro i hi hz
  have := vB_zero 256 (l := b.reverse) (fun j hj => by
   rw [List.length_reverse] at hj
   rw [rd_reverse _ _ hj]
   exact hz _ (by omega))
  omega
 | succ d ih =>
  intro i hi hz
  by_cases h0 : rd b (i : Int) = 0
  ·have e1 : wrap64 ((i : Int) + 1) = ((i + 1 : Nat) : Int) := by rw [w64 (by omega) (by omega)]; omega
   refine Ev.step (f := fun k => exact_pack.l2 k b ((i + 1 : Nat) : Int)) (fun k => ?_) (ih (i + 1) (by omega) (fun j hj => ?_))
   ·simp only [exact_pack.l2, e1]
    rw [if_pos (by omega), if_pos (by omega), if_pos h0]
   ·rcases Nat.lt_or_ge j i with h | h
    ·exact hz j h
    ·have : j = i := by omega
     subst this
     exact h0
  ·refine Ev.step (f := fun _ => some (nat n)) (fun k => ?_) (Ev.now _)
   simp only [exact_pack.l2]
   rw [if_pos (by omega), if_pos (by omega), if_neg h0, if_pos (by omega), Int.toNat_natCast]
   congr 1
   unfold nat
   congr 1
   have hu : (b.drop i).reverse = d8 n := by
    refine d8_unique (Dig_reverse (Dig_drop hd _)) (fun hp => ?_) ?_
    ·rw [List.length_reverse] at hp ⊢
     rw [rd_reverse _ _ (by omega), rd_drop]
     have : i + ((b.drop i).length - 1 - ((b.drop i).length - 1)) = i := by omega
     rw [this]
     exact h0
    ·rw [← hv]
     conv => rhs; rw [← List.take_append_drop i b]
     rw [List.reverse_append, vB_append, vB_zero 256 (l := (b.take i).reverse) (fun j hj => ?_)]
     ·simp
     ·rw [List.length_reverse] at hj
      have hl : (b.take i).length = i := by rw [List.length_take]; omega
      rw [rd_reverse _ _ hj, rd_take _ _ _ (by omega)]
      exact hz _ (by omega)
   rw [← hu, List.reverse_reverse]
theorem byte_of (x : Int) (s : Nat) (hs : s < 8) (h0 : 0 ≤ x) (h1 : x < B64) : shr .u64 x ((8 * s : Nat) : Int) % 256 = x / 256 ^ s % 256 := by
 unfold shr
 rw [Int.toNat_natCast]
 have : min (8 * s) IntKind.u64.bits = 8 * s := Nat.min_eq_left (by show 8 * s ≤ 64; omega)
 rw [this, Int.pow_mul]
 rfl
theorem byte_step (x : Int) (s : Nat) (hs : s < 8) (h0 : 0 ≤ x) (h1 : x < B64) : x % 256 ^ (s + 1) = x % 256 ^ s + 256 ^ s * (x / 256 ^ s % 256) := by
 have : s = 0 ∨ s = 1 ∨ s = 2 ∨ s = 3 ∨ s = 4 ∨ s = 5 ∨ s = 6 ∨ s = 7 := by omega
 rcases this with rfl | rfl | rfl | rfl | rfl | rfl | rfl | rfl <;> simp <;> omega
def Packed (w b : List Int) (i s : Nat) : Prop :=
 b.length = 8 * w.length ∧ Dig 256 b ∧ vB 256 b.reverse = vB B64 (w.take i) + B64 ^ i * (rd w (i : Int) % 256 ^ s) ∧ ∀ j : Nat, 8 * i + s ≤ j → rd b.reverse (j : Int) = 0
theorem packed_step {w b : List Int} {i s : Nat} (hw : Dig B64 w) (hi : i < w.length) (hs : s < 8) (h : Packed w b i s) :
  8 * i + s < b.length ∧ Packed w (b.set (b.length - 1 - (8 * i + s)) (rd w (i : Int) / 256 ^ s % 256)) i (s + 1) := by
 obtain ⟨hl, hd, hv, hz⟩ := h
 obtain ⟨hx0, hx1⟩ := Dig_rd hw i hi
 have hlt : 8 * i + s < b.length := by omega
 refine ⟨hlt, by rw [List.length_set]; exact hl, Dig_set hd _ (Int.emod_nonneg _ (by decide)) (Int.emod_lt_of_pos _ (by decide)), ?_, fun j hj => ?_⟩
 ·rw [set_reverse _ _ _ (by omega)]
  have e : b.length - 1 - (b.length - 1 - (8 * i + s)) = 8 * i + s := by omega
  rw [e, vB_set _ _ _ _ (by rw [List.length_reverse]; exact hlt), hz _ (Nat.le_refl _), hv, byte_step _ s hs hx0 hx1, Int.sub_zero, Int.mul_add, ← pow8, Int.mul_assoc, Int.add_assoc]
 ·rw [set_reverse _ _ _ (by omega)]
  have e : b.length - 1 - (b.length - 1 - (8 * i + s)) = 8 * i + s := by omega
  rw [e, rd_set_ne _ _ _ _ (by omega)]
  exact hz j (by omega)
theorem packed_word {w b : List Int} {i : Nat} (hw : Dig B64 w) (hi : i < w.length) (h : Packed w b i 8) : Packed w b (i + 1) 0 := by
 obtain ⟨hl, hd, hv, hz⟩ := h
 obtain ⟨hx0, hx1⟩ := Dig_rd hw i hi
 refine ⟨hl, hd, ?_, fun j hj => hz j (by omega)⟩
 rw [hv, vB_take_succ _ _ _ hi]
 have : rd w (i : Int) % 256 ^ 8 = rd w (i : Int) := Int.emod_eq_of_lt hx0 hx1
 rw [this]
 simp
theorem pack_l1 (w : List Int) (hw : Dig B64 w) (hl : w.length ≤ 1099511627776) (i : Nat) (hi : i < w.length) (r : ByteArray)
  (next : ∀ b, Packed w b (i + 1) 0 → Ev (fun k => exact_pack.l0 k b w (w.length : Int) ((i + 1 : Nat) : Int)) r) : ∀ (d s : Nat) (b : List Int), s + d = 8 → Packed w b i s →
  Ev (fun k => exact_pack.l1 k b (i : Int) (rd w (i : Int)) w (w.length : Int) (i : Int) (s : Int)) r := by
 obtain ⟨hx0, hx1⟩ := Dig_rd hw i hi
 intro d
 induction d with
 | zero =>
  intro s b hs hp
  have hs : s = 8 := by omega
  subst hs
  refine Ev.step (f := fun k => exact_pack.l0 k b w (w.length : Int) ((i + 1 : Nat) : Int)) (fun k => ?_) (next b (packed_word hw hi hp))
  have c1 : ¬ ((8 : Nat) : Int) < 8 := by omega
  have e1 : wrap64 ((i : Int) + 1) = ((i + 1 : Nat) : Int) := by rw [w64 (by omega) (by omega)]; omega
  simp only [exact_pack.l1, e1]
  rw [if_neg c1]
 | succ d ih =>
  intro s b hs hp
  have hlb := hp.1
  obtain ⟨hlt, hp'⟩ := packed_step hw hi (by omega) hp
  refine Ev.step (f := fun k => exact_pack.l1 k (b.set (b.length - 1 - (8 * i + s)) (rd w (i : Int) / 256 ^ s % 256)) (i : Int) (rd w (i : Int)) w (w.length : Int) (i : Int) ((s + 1 : Nat) : Int)) (fun k => ?_) (ih (s + 1) _ (by omega) hp')
  have c1 : ((s : Nat) : Int) < 8 := by omega
  have c2 : ((b.length - 1 - (8 * i + s) : Nat) : Int) < (b.length : Int) := by omega
  have e0 := byte_of _ s (by omega) hx0 hx1
  have e1 : wrap64 (8 * (s : Int)) = ((8 * s : Nat) : Int) := by rw [w64 (by omega) (by omega)]; omega
  have e2 : wrap64 (wrap64 (wrap64 ((b.length : Int) - 1) - ((8 * i : Nat) : Int)) - (s : Int)) = ((b.length - 1 - (8 * i + s) : Nat) : Int) := by
   clear e1 e0
   rw [w64 (x := (b.length : Int) - 1) (by omega) (by omega), w64 (x := (b.length : Int) - 1 - ((8 * i : Nat) : Int)) (by omega) (by omega), w64 (by omega) (by omega)]
   omega
  have e4 : wrap64 (8 * (i : Int)) = ((8 * i : Nat) : Int) := by clear e0 e1 e2; rw [w64 (by omega) (by omega)]; omega
  have e3 : wrap64 ((s : Int) + 1) = ((s + 1 : Nat) : Int) := by clear e0 e1 e2 e4; rw [w64 (by omega) (by omega)]; omega
  simp only [exact_pack.l1, e1, e4, e2, e3]
  rw [if_pos c1, if_pos (Int.natCast_nonneg _), if_pos (Int.natCast_nonneg _), if_pos c2, Int.toNat_natCast, e0]
theorem pack_l0 (w : List Int) (hw : Dig B64 w) (hl : w.length ≤ 1099511627776) (n : Nat) (hv : vB B64 w = n) (hn : n ≠ 0) : ∀ (d i : Nat) (b : List Int), i + d = w.length → Packed w b i 0 → Ev (fun k => exact_pack.l0 k b w (w.length : Int) (i : Int)) (nat n) := by
 intro d
 induction d with
 | zero =>
  intro i b hi hp
  obtain ⟨h1, h2, h3, h4⟩ := hp
  have hi : i = w.length := by omega
  subst hi
  have e : vB 256 b.reverse = n := by
   rw [h3, List.take_of_length_le (Nat.le_refl _), hv]
   simp
  refine Ev.step (f := fun k => exact_pack.l2 k b ((0 : Nat) : Int)) (fun k => ?_) (pack_l2 b h2 (by omega) n e hn b.length 0 (by omega) (fun j hj => absurd hj (by omega)))
  simp only [exact_pack.l0]
  rw [if_neg (by omega)]
  rfl
 | succ d ih =>
  intro i b hi hp
  refine Ev.step (f := fun k => exact_pack.l1 k b (i : Int) (rd w (i : Int)) w (w.length : Int) (i : Int) ((0 : Nat) : Int)) (fun k => ?_) (pack_l1 w hw hl i (by omega) (nat n) (fun b' hp' => ih (i + 1) b' (by omega) hp') 8 0 b (by omega) hp)
  simp only [exact_pack.l0]
  rw [if_pos (by omega), if_pos (by omega), if_pos (by omega)]
  rfl
theorem pack_ev {l : List Int} (hd : Dig B64 l) (hl : l.length ≤ 1099511627776) : Ev (fun k => exact_pack.f k l) (nat (vB B64 l).toNat) := by
 have hv := vB_nonneg (by decide) hd
 have ht : (d64 (vB B64 l).toNat).length ≤ l.length := dgs_len (by
  have := vB_lt (by decide) hd
  have h1 : (((vB B64 l).toNat : Nat) : Int) < ((18446744073709551614 + 2 : Nat) : Int) ^ l.length := by
   rw [Int.toNat_of_nonneg hv]
   exact this
  exact_mod_cast h1)
 refine Ev.congr (f := fun k => (exact_trim.f k l).bind fun t => if (t.length : Int) = 0 then some (⟨#[]⟩ : ByteArray) else if 0 ≤ wrap64 (8 * (t.length : Int)) then (if (wrap64 (8 * (t.length : Int)) : Int).toNat ≤ 281474976710656 then exact_pack.l0 k (List.replicate (wrap64 (8 * (t.length : Int)) : Int).toNat 0) t (t.length : Int) 0 else none) else none) (fun k => rfl) (Ev.bind (trim_ev hd (by omega)) ?_)
 generalize hn : (vB B64 l).toNat = n at *
 by_cases h0 : n = 0
 ·subst h0
  rw [d64_zero, nat_zero]
  exact Ev.now _
 ·have hne : (d64 n).length ≠ 0 := by
   intro h
   have := d64_val n
   rw [List.eq_nil_of_length_eq_zero h] at this
   simp [vB] at this
   omega
  have e1 : wrap64 (8 * ((d64 n).length : Int)) = ((8 * (d64 n).length : Nat) : Int) := by rw [w64 (by omega) (by omega)]; omega
  refine Ev.congr (f := fun k => exact_pack.l0 k (List.replicate (8 * (d64 n).length) 0) (d64 n) ((d64 n).length : Int) ((0 : Nat) : Int)) (fun k => ?_) (pack_l0 (d64 n) (d64_dig n) (by omega) n (d64_val n) h0 (d64 n).length 0 _ (by omega) ⟨by simp, Dig_replicate (by decide) _, ?_, fun j _ => ?_⟩)
  ·rw [e1, if_neg (by omega), if_pos (by omega), Int.toNat_natCast, if_pos (by omega)]
   rfl
  ·rw [List.reverse_replicate, vB_replicate]
   simp [vB]
  ·rw [List.reverse_replicate, rd_replicate]
end Go.Proofs.YtdhdfcjpeflinaaN
set_option linter.unusedVariables false
namespace Go.Proofs.YtdhdfcjpeflinaaN
open Go.RowKit Go.Proofs.Ytdhdfcjpeflinaa.All Go.Proofs.YtdhdfcjpeflinaaW.PrintWords Go.Proofs.YtdhdfcjpeflinaaW.PrintLast Go.Proofs.YtdhdfcjpeflinaaW.PrintMore
theorem mul_range {a b A B : Int} (a0 : 0 ≤ a) (a1 : a ≤ A) (b0 : 0 ≤ b) (b1 : b ≤ B) : 0 ≤ a * b ∧ a * b ≤ A * B :=
 ⟨Int.mul_nonneg a0 b0, Int.le_trans (Int.mul_le_mul_of_nonneg_left b1 a0) (Int.mul_le_mul_of_nonneg_right a1 (by omega))⟩
theorem and_low {x : Int} (h0 : 0 ≤ x) (h1 : x < B64) : Go.bits .and .u64 x 4294967295 = x % 4294967296 :=
 bits_mask .u64 64 (by decide) wraps_u64 32 (by decide) x h0 (by simpa using h1)
theorem mul64_eq {x y : Int} (x0 : 0 ≤ x) (x1 : x < B64) (y0 : 0 ≤ y) (y1 : y < B64) : bits_Mul64.f x y = some (x * y / B64, x * y % B64) := by
 have x1' : x < 18446744073709551616 := x1
 have y1' : y < 18446744073709551616 := y1
 show bits_Mul64.f x y = some (x * y / 18446744073709551616, x * y % 18446744073709551616)
 obtain ⟨a, ha⟩ : ∃ a, a = x / 4294967296 := ⟨_, rfl⟩
 obtain ⟨b, hb⟩ : ∃ b, b = x % 4294967296 := ⟨_, rfl⟩
 obtain ⟨c, hc⟩ : ∃ c, c = y / 4294967296 := ⟨_, rfl⟩
 obtain ⟨d, hd⟩ : ∃ d, d = y % 4294967296 := ⟨_, rfl⟩
 have hx : x = a * 4294967296 + b := by omega
 have hy : y = c * 4294967296 + d := by omega
 have a0 : 0 ≤ a ∧ a ≤ 4294967295 := by omega
 have b0 : 0 ≤ b ∧ b ≤ 4294967295 := by omega
 have c0 : 0 ≤ c ∧ c ≤ 4294967295 := by omega
 have d0 : 0 ≤ d ∧ d ≤ 4294967295 := by omega
 have hac := mul_range a0.1 a0.2 c0.1 c0.2
 have had := mul_range a0.1 a0.2 d0.1 d0.2
 have hbc := mul_range b0.1 b0.2 c0.1 c0.2
 have hbd := mul_range b0.1 b0.2 d0.1 d0.2
 have hp : x * y = a * c * 18446744073709551616 + (a * d + b * c) * 4294967296 + b * d := by
  rw [hx, hy, Int.add_mul, Int.mul_add, Int.mul_add, Int.add_mul]
  have e1 : a * 4294967296 * (c * 4294967296) = a * c * 18446744073709551616 := by
   rw [Int.mul_assoc, Int.mul_left_comm 4294967296 c, Int.mul_assoc a c]
   congr 1
  have e2 : a * 4294967296 * d = a * d * 4294967296 := by rw [Int.mul_assoc, Int.mul_comm 4294967296 d, ← Int.mul_assoc]
  have e3 : b * (c * 4294967296) = b * c * 4294967296 := by rw [Int.mul_assoc]
  rw [e1, e2, e3]
  omega
 unfold bits_Mul64.f
 rw [and_low x0 x1, and_low y0 y1, ← ha, ← hb, ← hc, ← hd, hp]
 generalize hA : a * c = p at *
 generalize hD : a * d = q at *
 generalize hC : b * c = r at *
 generalize hE : b * d = s at *
 clear hA hD hC hE hp hx hy ha hb hc hd x0 x1 y0 y1 x1' y1'
 have h1 : (4294967295 : Int) * 4294967295 = 18446744065119617025 := rfl
 rw [h1] at *
 rw [u64 (x := s) (by omega) (by omega), u64 (x := q) (by omega) (by omega), u64 (x := q + s / 4294967296) (by omega) (by omega), and_low (x := q + s / 4294967296) (by omega) (by show _ < (18446744073709551616 : Int); omega),
  u64 (x := r) (by omega) (by omega), u64 (x := (q + s / 4294967296) % 4294967296 + r) (by omega) (by omega), u64 (x := p) (by omega) (by omega),
  u64 (x := p + (q + s / 4294967296) / 4294967296) (by omega) (by omega)]
 have e : p + (q + s / 4294967296) / 4294967296 + ((q + s / 4294967296) % 4294967296 + r) / 4294967296 = (p * 18446744073709551616 + (q + r) * 4294967296 + s) / 18446744073709551616 := by omega
 rw [e, u64 (x := (p * 18446744073709551616 + (q + r) * 4294967296 + s) / 18446744073709551616) (by clear e; omega) (by clear e; omega), u64_mod]
theorem add64_eq {x y c : Int} (x0 : 0 ≤ x) (y0 : 0 ≤ y) (c0 : 0 ≤ c) (c1 : c ≤ 1) : bits_Add64.f x y c = some ((x + y + c) % B64, (x + y + c) / B64) := by
 unfold bits_Add64.f
 rw [if_pos ⟨x0, y0, c0, c1⟩]
theorem sub64_eq {x y c : Int} (x0 : 0 ≤ x) (x1 : x < B64) (y0 : 0 ≤ y) (y1 : y < B64) (c0 : 0 ≤ c) (c1 : c ≤ 1) : ∃ d e, bits_Sub64.f x y c = some (d, e) ∧ 0 ≤ d ∧ d < B64 ∧ 0 ≤ e ∧ e ≤ 1 ∧ d = x - y - c + B64 * e := by
 have x1' : x < 18446744073709551616 := x1
 have y1' : y < 18446744073709551616 := y1
 unfold bits_Sub64.f
 rw [if_pos ⟨x0, y0, by omega, c0, c1⟩]
 refine ⟨_, _, rfl, Int.emod_nonneg _ (by decide), Int.emod_lt_of_pos _ (by decide), ?_, ?_, ?_⟩
 ·split <;> decide
 ·split <;> decide
 ·show (x - y - c) % 18446744073709551616 = x - y - c + 18446744073709551616 * _
  split <;> omega
theorem mul_add {x y o c : Int} (x0 : 0 ≤ x) (x1 : x < B64) (y0 : 0 ≤ y) (y1 : y < B64) (o0 : 0 ≤ o) (o1 : o < B64) (c0 : 0 ≤ c) (c1 : c < B64) :
  IntKind.u64.wrap (IntKind.u64.wrap (x * y / B64 + (x * y % B64 + o + 0) / B64) + ((x * y % B64 + o + 0) % B64 + c + 0) / B64) = (x * y + o + c) / B64 ∧ ((x * y % B64 + o + 0) % B64 + c + 0) % B64 = (x * y + o + c) % B64 ∧ 0 ≤ (x * y + o + c) / B64 ∧ (x * y + o + c) / B64 < B64 := by
 have x1' : x < 18446744073709551616 := x1
 have y1' : y < 18446744073709551616 := y1
 have o1' : o < 18446744073709551616 := o1
 have c1' : c < 18446744073709551616 := c1
 have hp := mul_range x0 (show x ≤ 18446744073709551615 by omega) y0 (show y ≤ 18446744073709551615 by omega)
 have h1 : (18446744073709551615 : Int) * 18446744073709551615 = 340282366920938463426481119284349108225 := rfl
 rw [h1] at hp
 show IntKind.u64.wrap (IntKind.u64.wrap (x * y / 18446744073709551616 + (x * y % 18446744073709551616 + o + 0) / 18446744073709551616) + ((x * y % 18446744073709551616 + o + 0) % 18446744073709551616 + c + 0) / 18446744073709551616) = (x * y + o + c) / 18446744073709551616 ∧ ((x * y % 18446744073709551616 + o + 0) % 18446744073709551616 + c + 0) % 18446744073709551616 = (x * y + o + c) % 18446744073709551616 ∧ 0 ≤ (x * y + o + c) / 18446744073709551616 ∧ (x * y + o + c) / 18446744073709551616 < 18446744073709551616
 generalize x * y = p at *
 clear x0 x1 x1' y0 y1 y1' o1 c1 h1
 have a1 : 0 ≤ p / 18446744073709551616 + (p % 18446744073709551616 + o + 0) / 18446744073709551616 ∧ p / 18446744073709551616 + (p % 18446744073709551616 + o + 0) / 18446744073709551616 < 18446744073709551616 := by omega
 rw [u64 a1.1 a1.2]
 have a2 : p / 18446744073709551616 + (p % 18446744073709551616 + o + 0) / 18446744073709551616 + ((p % 18446744073709551616 + o + 0) % 18446744073709551616 + c + 0) / 18446744073709551616 = (p + o + c) / 18446744073709551616 := by omega
 have a3 : 0 ≤ (p + o + c) / 18446744073709551616 ∧ (p + o + c) / 18446744073709551616 < 18446744073709551616 := by omega
 rw [a2, u64 a3.1 a3.2]
 refine ⟨rfl, by omega, a3.1, a3.2⟩
theorem take_succ (B : Int) (l : List Int) (i : Nat) : vB B (l.take (i + 1)) = vB B (l.take i) + B ^ i * rd l (i : Int) := by
 rcases Nat.lt_or_ge i l.length with h | h
 ·exact vB_take_succ B l i h
 ·rw [List.take_of_length_le (by omega), List.take_of_length_le h, rd_nat, List.getD_eq_getElem?_getD, List.getElem?_eq_none h]
  simp
theorem rd_far (l : List Int) (i : Nat) (h : l.length ≤ i) : rd l (i : Int) = 0 := by
 rw [rd_nat, List.getD_eq_getElem?_getD, List.getElem?_eq_none h]
 rfl
theorem vB_all (B : Int) (l : List Int) (i : Nat) (h : l.length ≤ i) : vB B (l.take i) = vB B l := by rw [List.take_of_length_le h]
def MulOut (a b out : List Int) (i : Nat) : Prop :=
 out.length = a.length + b.length ∧ Dig B64 out ∧ vB B64 out = vB B64 (a.take i) * vB B64 b ∧ ∀ j : Nat, i + b.length ≤ j → rd out (j : Int) = 0
def MulIn (a b out : List Int) (i j : Nat) (c : Int) : Prop :=
 out.length = a.length + b.length ∧ Dig B64 out ∧ (0 ≤ c ∧ c < B64) ∧ vB B64 out + B64 ^ (i + j) * c = vB B64 (a.take i) * vB B64 b + B64 ^ i * (rd a (i : Int) * vB B64 (b.take j)) ∧ ∀ n : Nat, i + b.length ≤ n → rd out (n : Int) = 0
theorem mul_in {a b out : List Int} {i j : Nat} {c : Int} (ha : Dig B64 a) (hb : Dig B64 b) (hi : i < a.length) (hj : j < b.length) (h : MulIn a b out i j c) :
  MulIn a b (out.set (i + j) ((rd a (i : Int) * rd b (j : Int) + rd out ((i + j : Nat) : Int) + c) % B64)) i (j + 1) ((rd a (i : Int) * rd b (j : Int) + rd out ((i + j : Nat) : Int) + c) / B64) := by
 obtain ⟨hl, hd, hc, hv, hz⟩ := h
 obtain ⟨x0, x1⟩ := Dig_rd ha i hi
 obtain ⟨y0, y1⟩ := Dig_rd hb j hj
 obtain ⟨o0, o1⟩ := Dig_rd hd (i + j) (by omega)
 obtain ⟨-, -, n0, n1⟩ := mul_add x0 x1 y0 y1 o0 o1 hc.1 hc.2
 refine ⟨by rw [List.length_set]; exact hl, Dig_set hd _ (Int.emod_nonneg _ (by decide)) (Int.emod_lt_of_pos _ (by decide)), ⟨n0, n1⟩, ?_, fun n hn => ?_⟩
 ·rw [vB_set _ _ _ _ (by omega), take_succ, ← Nat.add_assoc, Int.pow_succ]
  have e := Int.emod_add_mul_ediv (rd a (i : Int) * rd b (j : Int) + rd out ((i + j : Nat) : Int) + c) B64
  generalize (rd a (i : Int) * rd b (j : Int) + rd out ((i + j : Nat) : Int) + c) / B64 = q at *
  generalize (rd a (i : Int) * rd b (j : Int) + rd out ((i + j : Nat) : Int) + c) % B64 = r at *
  have er : r = rd a (i : Int) * rd b (j : Int) + rd out ((i + j : Nat) : Int) + c - B64 * q := by omega
  rw [er]
  have ep : (B64 : Int) ^ (i + j) = B64 ^ i * B64 ^ j := Int.pow_add _ _ _
  rw [ep] at hv ⊢
  clear ep
  generalize vB B64 out = V at *
  generalize vB B64 (List.take i a) * vB B64 b = W at *
  generalize vB B64 (List.take j b) = U at *
  generalize (B64 : Int) ^ i = P at *
  generalize (B64 : Int) ^ j = Q at *
  generalize rd a (i : Int) = x at *
  generalize rd b (j : Int) = y at *
  generalize rd out ((i + j : Nat) : Int) = o at *
  have e1 : P * Q * (x * y + o + c - B64 * q - o) = P * Q * (x * y) + P * Q * c - P * Q * B64 * q := by
   rw [show x * y + o + c - B64 * q - o = x * y + c - B64 * q by omega, Int.mul_sub, Int.mul_add, Int.mul_assoc (P * Q) B64 q]
  have e2 : P * (x * (U + Q * y)) = P * (x * U) + P * Q * (x * y) := by
   rw [Int.mul_add x, Int.mul_add P, Int.mul_left_comm x Q y, Int.mul_assoc P Q]
  rw [e1, e2]
  omega
 ·rw [rd_set_ne _ _ _ _ (by omega)]
  exact hz n hn
theorem mulWords_l1 (a b : List Int) (ha : Dig B64 a) (hb : Dig B64 b) (la : a.length ≤ 1099511627776) (lb : b.length ≤ 1099511627776) (i : Nat) (hi : i < a.length) (r : List Int)
  (next : ∀ out, MulOut a b out (i + 1) → Ev (fun k => exact_mulWords.l0 k b out a (a.length : Int) ((i + 1 : Nat) : Int)) r) : ∀ (d j : Nat) (out : List Int) (c : Int), j + d = b.length → MulIn a b out i j c →
  Ev (fun k => exact_mulWords.l1 k b out (i : Int) (rd a (i : Int)) c a (a.length : Int) (i : Int) b (b.length : Int) (j : Int)) r := by
 intro d
 induction d with
 | zero =>
  intro j out c hj h
  have hj : j = b.length := by omega
  subst hj
  have hl := h.1
  have c1 : i + b.length < out.length := by omega
  have c2 : ((i + b.length : Nat) : Int) < (out.length : Int) := Int.ofNat_lt.2 c1
  have e1 : wrap64 ((i : Int) + (b.length : Int)) = ((i + b.length : Nat) : Int) := by rw [w64 (by omega) (by omega)]; omega
  have e2 : wrap64 ((i : Int) + 1) = ((i + 1 : Nat) : Int) := by clear e1; rw [w64 (by omega) (by omega)]; omega
  obtain ⟨-, hd, hc, hv, hz⟩ := h
  refine Ev.step (f := fun k => exact_mulWords.l0 k b (out.set (i + b.length) c) a (a.length : Int) ((i + 1 : Nat) : Int)) (fun k => ?_) (next _ ⟨by rw [List.length_set]; exact hl, Dig_set hd _ hc.1 hc.2, ?_, fun j hj => ?_⟩)
  ·simp only [exact_mulWords.l1, e1, e2]
   rw [if_neg (Int.lt_irrefl _), if_pos (Int.natCast_nonneg _), if_pos c2, Int.toNat_natCast]
  ·rw [vB_set _ _ _ _ c1, hz _ (Nat.le_refl _), Int.sub_zero, hv, take_succ, vB_all _ _ _ (Nat.le_refl _), Int.add_mul, Int.mul_assoc]
  ·rw [rd_set_ne _ _ _ _ (by clear hv e1 e2; omega)]
   exact hz j (by clear hv e1 e2; omega)
 | succ d ih =>
  intro j out c hj h
  have hj' : j < b.length := by omega
  have hn := mul_in ha hb hi hj' h
  have hl := h.1
  have c1 : i + j < out.length := by omega
  have c2 : ((i + j : Nat) : Int) < (out.length : Int) := Int.ofNat_lt.2 c1
  have c3 : (j : Int) < (b.length : Int) := Int.ofNat_lt.2 hj'
  have c4 : j + 1 + d = b.length := by omega
  have e1 : wrap64 ((i : Int) + (j : Int)) = ((i + j : Nat) : Int) := by rw [w64 (by omega) (by omega)]; omega
  have e2 : wrap64 ((j : Int) + 1) = ((j + 1 : Nat) : Int) := by clear e1; rw [w64 (by omega) (by omega)]; omega
  obtain ⟨-, hd, hc, -, -⟩ := h
  obtain ⟨x0, x1⟩ := Dig_rd ha i hi
  obtain ⟨y0, y1⟩ := Dig_rd hb j hj'
  obtain ⟨o0, o1⟩ := Dig_rd hd (i + j) c1
  obtain ⟨m0, m1, -, -⟩ := mul_add x0 x1 y0 y1 o0 o1 hc.1 hc.2
  have a1 := mul64_eq x0 x1 y0 y1
  have a2 := add64_eq (Int.emod_nonneg (rd a (i : Int) * rd b (j : Int)) (show (B64 : Int) ≠ 0 by decide)) o0 (Int.le_refl 0) (by decide)
  have a3 := add64_eq (Int.emod_nonneg (rd a (i : Int) * rd b (j : Int) % B64 + rd out ((i + j : Nat) : Int) + 0) (show (B64 : Int) ≠ 0 by decide)) hc.1 (Int.le_refl 0) (by decide)
  refine Ev.step (f := fun k => exact_mulWords.l1 k b (out.set (i + j) ((rd a (i : Int) * rd b (j : Int) + rd out ((i + j : Nat) : Int) + c) % B64)) (i : Int) (rd a (i : Int)) ((rd a (i : Int) * rd b (j : Int) + rd out ((i + j : Nat) : Int) + c) / B64) a (a.length : Int) (i : Int) b (b.length : Int) ((j + 1 : Nat) : Int)) (fun k => ?_) (ih (j + 1) _ _ c4 hn)
  simp only [exact_mulWords.l1, e1, e2]
  rw [if_pos c3, if_pos (Int.natCast_nonneg _), if_pos c3, a1, Option.bind_some, if_pos (Int.natCast_nonneg _), if_pos c2, a2, Option.bind_some, a3, Option.bind_some, m0, m1, Int.toNat_natCast]
theorem mulWords_l0 (a b : List Int) (ha : Dig B64 a) (hb : Dig B64 b) (la : a.length ≤ 1099511627776) (lb : b.length ≤ 1099511627776) : ∀ (d i : Nat) (out : List Int), i + d = a.length → MulOut a b out i →
  Ev (fun k => exact_mulWords.l0 k b out a (a.length : Int) (i : Int)) (d64 (vB B64 a * vB B64 b).toNat) := by
 intro d
 induction d with
 | zero =>
  intro i out hi h
  have hi : i = a.length := by omega
  subst hi
  obtain ⟨hl, hd, hv, hz⟩ := h
  rw [vB_all _ _ _ (Nat.le_refl _)] at hv
  refine Ev.step (f := fun k => (exact_trim.f k out).bind fun t => some t) (fun k => ?_) (Ev.bind (trim_ev hd (by omega)) ?_)
  ·simp only [exact_mulWords.l0]
   rw [if_neg (Int.lt_irrefl _)]
  ·rw [hv]
   exact Ev.now _
 | succ d ih =>
  intro i out hi h
  have hi' : i < a.length := by omega
  have c1 : (i : Int) < (a.length : Int) := Int.ofNat_lt.2 hi'
  obtain ⟨hl, hd, hv, hz⟩ := h
  refine Ev.step (f := fun k => exact_mulWords.l1 k b out (i : Int) (rd a (i : Int)) 0 a (a.length : Int) (i : Int) b (b.length : Int) ((0 : Nat) : Int)) (fun k => ?_) (mulWords_l1 a b ha hb la lb i hi' _ (fun out' h' => ih (i + 1) out' (by omega) h') b.length 0 out 0 (by omega) ⟨hl, hd, ⟨by decide, by decide⟩, ?_, hz⟩)
  ·simp only [exact_mulWords.l0]
   rw [if_pos c1, if_pos (Int.natCast_nonneg _), if_pos c1]
   rfl
  ·rw [hv]
   simp [vB]
theorem mulWords_ev {a b : List Int} (ha : Dig B64 a) (hb : Dig B64 b) (la : a.length ≤ 1099511627776) (lb : b.length ≤ 1099511627776) : Ev (fun k => exact_mulWords.f k a b) (d64 (vB B64 a * vB B64 b).toNat) := by
 have e1 : wrap64 ((a.length : Int) + (b.length : Int)) = ((a.length + b.length : Nat) : Int) := by rw [w64 (by omega) (by omega)]; omega
 refine Ev.congr (f := fun k => exact_mulWords.l0 k b (List.replicate (a.length + b.length) 0) a (a.length : Int) ((0 : Nat) : Int)) (fun k => ?_) (mulWords_l0 a b ha hb la lb a.length 0 _ (by omega) ⟨by simp, Dig_replicate (by decide) _, ?_, fun j _ => rd_replicate _ _⟩)
 ·unfold exact_mulWords.f
  rw [e1, if_pos (Int.natCast_nonneg _), Int.toNat_natCast, if_pos (by omega)]
  rfl
 ·rw [vB_replicate]
  simp [vB]
theorem mulWords_d64 {m n : Nat} (lm : (d64 m).length ≤ 1099511627776) (ln : (d64 n).length ≤ 1099511627776) : Ev (fun k => exact_mulWords.f k (d64 m) (d64 n)) (d64 (m * n)) := by
 have := mulWords_ev (d64_dig m) (d64_dig n) lm ln
 rw [d64_val, d64_val] at this
 rwa [show ((m : Int) * (n : Int)).toNat = m * n by rw [← Int.natCast_mul, Int.toNat_natCast]] at this
end Go.Proofs.YtdhdfcjpeflinaaN
set_option linter.unusedVariables false
namespace Go.Proofs.YtdhdfcjpeflinaaN
open Go.RowKit Go.Proofs.Ytdhdfcjpeflinaa.All Go.Proofs.YtdhdfcjpeflinaaW.PrintWords Go.Proofs.YtdhdfcjpeflinaaW.PrintLast Go.Proofs.YtdhdfcjpeflinaaW.PrintMore
theorem size_mono {m n : Nat} (h : m ≤ n) : (nat m).size ≤ (nat n).size := nat_size_le.2 (Nat.lt_of_le_of_lt h (nat_lt_size n))
theorem size_mul {m n : Nat} : (nat (m * n)).size ≤ (nat m).size + (nat n).size := by
 apply nat_size_le.2
 rw [Nat.pow_add]
 have h1 := nat_lt_size m
 have h2 := nat_lt_size n
 exact Nat.lt_of_le_of_lt (Nat.mul_le_mul_right _ (Nat.le_of_lt h1)) (Nat.mul_lt_mul_of_pos_left h2 (Nat.lt_of_le_of_lt (Nat.zero_le _) h1))
theorem words_len (n : Nat) : (d64 n).length ≤ ((nat n).size + 7) / 8 := by
 apply dgs_len
 have h1 := nat_lt_size n
 have h2 : 256 ^ (nat n).size ≤ 256 ^ (8 * (((nat n).size + 7) / 8)) := Nat.pow_le_pow_right (by decide) (by omega)
 rw [Nat.pow_mul] at h2
 exact Nat.lt_of_lt_of_le h1 h2
def AddOut (x y out : List Int) (i : Nat) (c : Int) : Prop :=
 out.length = x.length + 1 ∧ Dig B64 out ∧ (0 ≤ c ∧ c ≤ 1) ∧ vB B64 out + B64 ^ i * c = vB B64 (x.take i) + vB B64 (y.take i) ∧ ∀ n : Nat, i ≤ n → rd out (n : Int) = 0
theorem add_range {x y c : Int} (x0 : 0 ≤ x) (x1 : x < B64) (y0 : 0 ≤ y) (y1 : y < B64) (c0 : 0 ≤ c) (c1 : c ≤ 1) : 0 ≤ (x + y + c) / B64 ∧ (x + y + c) / B64 ≤ 1 := by
 have x1' : x < 18446744073709551616 := x1
 have y1' : y < 18446744073709551616 := y1
 show 0 ≤ (x + y + c) / 18446744073709551616 ∧ (x + y + c) / 18446744073709551616 ≤ 1
 omega
theorem add_out {x y out : List Int} {i : Nat} {c : Int} (hx : Dig B64 x) (hy : Dig B64 y) (hi : i < x.length) (h : AddOut x y out i c) :
  AddOut x y (out.set i ((rd x (i : Int) + rd y (i : Int) + c) % B64)) (i + 1) ((rd x (i : Int) + rd y (i : Int) + c) / B64) := by
 obtain ⟨hl, hd, hc, hv, hz⟩ := h
 obtain ⟨x0, x1⟩ := Dig_rd hx i hi
 obtain ⟨y0, y1⟩ := Dig_rd0 (by decide) hy i
 refine ⟨by rw [List.length_set]; exact hl, Dig_set hd _ (Int.emod_nonneg _ (by decide)) (Int.emod_lt_of_pos _ (by decide)), add_range x0 x1 y0 y1 hc.1 hc.2, ?_, fun n hn => ?_⟩
 ·rw [vB_set _ _ _ _ (by clear hv; omega), hz _ (Nat.le_refl _), Int.sub_zero, take_succ, take_succ, Int.pow_succ]
  have e := Int.emod_add_mul_ediv (rd x (i : Int) + rd y (i : Int) + c) B64
  generalize (rd x (i : Int) + rd y (i : Int) + c) / B64 = q at *
  generalize (rd x (i : Int) + rd y (i : Int) + c) % B64 = r at *
  have er : r = rd x (i : Int) + rd y (i : Int) + c - B64 * q := by clear hv; omega
  rw [er, Int.mul_sub, Int.mul_add, Int.mul_add, Int.mul_assoc (B64 ^ i) B64 q]
  generalize (B64 : Int) ^ i = P at *
  omega
 ·rw [rd_set_ne _ _ _ _ (by clear hv; omega)]
  exact hz n (by clear hv; omega)
theorem NatAdd_l0 (x y : List Int) (hx : Dig B64 x) (hy : Dig B64 y) (lx : x.length ≤ 1099511627775) (hyx : y.length ≤ x.length) (n : Nat) (hn : vB B64 x + vB B64 y = n) : ∀ (d i : Nat) (out : List Int) (c : Int), i + d = x.length → AddOut x y out i c →
  Ev (fun k => exact_NatAdd.l0 k x y out c (x.length : Int) (i : Int)) (nat n) := by
 intro d
 induction d with
 | zero =>
  intro i out c hi h
  have hi : i = x.length := by omega
  subst hi
  have hl := h.1
  have c1 : (x.length : Int) < (out.length : Int) := by omega
  have c2 : x.length < out.length := by omega
  have c3 : out.length ≤ 1099511627776 := by omega
  obtain ⟨-, hd, hc, hv, hz⟩ := h
  have hd' : Dig B64 (out.set x.length c) := Dig_set hd _ hc.1 (by have := hc.2; exact Int.lt_of_le_of_lt this (by decide))
  have hv' : vB B64 (out.set x.length c) = n := by
   rw [vB_set _ _ _ _ c2, hz _ (Nat.le_refl _), Int.sub_zero, hv, vB_all _ _ _ (Nat.le_refl _), vB_all _ _ _ hyx, hn]
  have := pack_ev hd' (by rw [List.length_set]; exact c3)
  rw [hv', Int.toNat_natCast] at this
  refine Ev.step (f := fun k => (exact_pack.f k (out.set x.length c)).bind fun t => some t) (fun k => ?_) (Ev.bind this (Ev.now _))
  simp only [exact_NatAdd.l0]
  rw [if_neg (Int.lt_irrefl _), if_pos (Int.natCast_nonneg _), if_pos c1, Int.toNat_natCast]
 | succ d ih =>
  intro i out c hi h
  have hi' : i < x.length := by omega
  have c0 : i + 1 + d = x.length := by omega
  have c1 : (i : Int) < (x.length : Int) := Int.ofNat_lt.2 hi'
  have hl := h.1
  have c2 : (i : Int) < (out.length : Int) := by omega
  have c3 : ¬ (i : Int) < (y.length : Int) → rd y (i : Int) = 0 := fun h => rd_far y i (by omega)
  have e1 : wrap64 ((i : Int) + 1) = ((i + 1 : Nat) : Int) := by clear c3; rw [w64 (by omega) (by omega)]; omega
  have hn' := add_out hx hy hi' h
  obtain ⟨-, hd, hc, -, -⟩ := h
  obtain ⟨x0, x1⟩ := Dig_rd hx i hi'
  obtain ⟨y0, y1⟩ := Dig_rd0 (by decide) hy i
  have ea := add64_eq x0 y0 hc.1 hc.2
  refine Ev.step (f := fun k => exact_NatAdd.l0 k x y (out.set i ((rd x (i : Int) + rd y (i : Int) + c) % B64)) ((rd x (i : Int) + rd y (i : Int) + c) / B64) (x.length : Int) ((i + 1 : Nat) : Int)) (fun k => ?_) (ih (i + 1) _ _ c0 hn')
  simp only [exact_NatAdd.l0, e1]
  rw [if_pos c1]
  by_cases hy' : (i : Int) < (y.length : Int)
  ·rw [if_pos hy', if_pos (Int.natCast_nonneg _), if_pos c1, ea, Option.bind_some, if_pos c2, Int.toNat_natCast]
  ·rw [c3 hy'] at ea
   rw [if_neg hy', if_pos (Int.natCast_nonneg _), if_pos c1, ea, Option.bind_some, if_pos c2, Int.toNat_natCast, c3 hy']
theorem NatAdd_j0 {m n : Nat} (hm : (d64 m).length ≤ 1099511627775) (h : (d64 n).length ≤ (d64 m).length) : Ev (fun k => exact_NatAdd.j0 k (d64 m) (d64 n)) (nat (m + n)) := by
 have e1 : wrap64 (((d64 m).length : Int) + 1) = (((d64 m).length + 1 : Nat) : Int) := by rw [w64 (by omega) (by omega)]; omega
 refine Ev.step (f := fun k => exact_NatAdd.l0 k (d64 m) (d64 n) (List.replicate ((d64 m).length + 1) 0) 0 ((d64 m).length : Int) ((0 : Nat) : Int)) (fun k => ?_) (NatAdd_l0 (d64 m) (d64 n) (d64_dig m) (d64_dig n) hm h (m + n) (by rw [d64_val, d64_val, Int.natCast_add]) (d64 m).length 0 _ _ (Nat.zero_add _) ⟨by simp, Dig_replicate (by decide) _, ⟨by decide, by decide⟩, ?_, fun j _ => rd_replicate _ _⟩)
 ·simp only [exact_NatAdd.j0, e1]
  rw [if_pos (Int.natCast_nonneg _), Int.toNat_natCast, if_pos (by omega)]
  rfl
 ·rw [vB_replicate]
  simp [vB]
theorem NatAdd_ev {m n : Nat} (hm : (nat m).size ≤ 1099511627776) (hn : (nat n).size ≤ 1099511627776) : Ev (fun k => exact_NatAdd.f k (nat m) (nat n)) (nat (m + n)) := by
 have lm := words_len m
 have ln := words_len n
 refine Ev.bind (f := fun k t318 => (exact_words.f k (nat n)).bind fun t321 => (if (t318.length : Int) < (t321.length : Int) then (exact_NatAdd.j0 k t321 t318) else (exact_NatAdd.j0 k t318 t321))) (words_nat hm) (Ev.bind (words_nat hn) ?_)
 by_cases h : ((d64 m).length : Int) < ((d64 n).length : Int)
 ·refine Ev.congr (f := fun k => exact_NatAdd.j0 k (d64 n) (d64 m)) (fun k => if_pos h) ?_
  rw [Nat.add_comm m n]
  exact NatAdd_j0 (by omega) (by omega)
 ·refine Ev.congr (f := fun k => exact_NatAdd.j0 k (d64 m) (d64 n)) (fun k => if_neg h) ?_
  exact NatAdd_j0 (by omega) (by omega)
def SubOut (x y z : List Int) (i : Nat) (c : Int) : Prop :=
 z.length = x.length ∧ Dig B64 z ∧ (0 ≤ c ∧ c ≤ 1) ∧ vB B64 z + vB B64 (y.take i) = vB B64 x + B64 ^ i * c
theorem sub_out {x y z : List Int} {i : Nat} {c d e : Int} (hi : i < x.length) (h : SubOut x y z i c) (d0 : 0 ≤ d) (d1 : d < B64) (e0 : 0 ≤ e) (e1 : e ≤ 1) (he : d = rd z (i : Int) - rd y (i : Int) - c + B64 * e) :
  SubOut x y (z.set i d) (i + 1) e := by
 obtain ⟨hl, hd, hc, hv⟩ := h
 refine ⟨by rw [List.length_set]; exact hl, Dig_set hd _ d0 d1, ⟨e0, e1⟩, ?_⟩
 rw [vB_set _ _ _ _ (by clear hv; omega), take_succ, Int.pow_succ, he]
 have : rd z (i : Int) - rd y (i : Int) - c + B64 * e - rd z (i : Int) = B64 * e - rd y (i : Int) - c := by clear hv; omega
 rw [this, Int.mul_sub, Int.mul_sub, Int.mul_assoc (B64 ^ i) B64 e]
 generalize (B64 : Int) ^ i = P at *
 omega
theorem NatSub_l0 (x y : List Int) (hx : Dig B64 x) (hy : Dig B64 y) (lx : x.length ≤ 1099511627775) (hyx : y.length ≤ x.length) (n : Nat) (hn : vB B64 x = vB B64 y + n) : ∀ (d i : Nat) (z : List Int) (c : Int), i + d = x.length → SubOut x y z i c →
  Ev (fun k => exact_NatSub.l0 k z y c (x.length : Int) (i : Int)) (nat n) := by
 intro d
 induction d with
 | zero =>
  intro i z c hi h
  have hi : i = x.length := by omega
  subst hi
  have hl := h.1
  have c3 : z.length ≤ 1099511627776 := by omega
  obtain ⟨-, hd, hc, hv⟩ := h
  have hv' : vB B64 z = n := by
   have h1 := vB_lt (by decide) hd
   rw [vB_all _ _ _ hyx, hn] at hv
   rw [hl] at h1
   have h2 : c = 0 ∨ c = 1 := by clear h1 hv; omega
   rcases h2 with rfl | rfl
   ·rw [Int.mul_zero] at hv
    clear h1
    omega
   ·rw [Int.mul_one] at hv
    generalize (B64 : Int) ^ x.length = P at *
    omega
  have := pack_ev hd c3
  rw [hv', Int.toNat_natCast] at this
  refine Ev.step (f := fun k => (exact_pack.f k z).bind fun t => some t) (fun k => ?_) (Ev.bind this (Ev.now _))
  simp only [exact_NatSub.l0]
  rw [if_neg (Int.lt_irrefl _)]
 | succ d ih =>
  intro i z c hi h
  have hi' : i < x.length := by omega
  have c0 : i + 1 + d = x.length := by omega
  have hl := h.1
  have c1 : (i : Int) < (x.length : Int) := Int.ofNat_lt.2 hi'
  have c2 : (i : Int) < (z.length : Int) := by omega
  have c3 : ¬ (i : Int) < (y.length : Int) → rd y (i : Int) = 0 := fun h => rd_far y i (by omega)
  have e1 : wrap64 ((i : Int) + 1) = ((i + 1 : Nat) : Int) := by clear c3; rw [w64 (by omega) (by omega)]; omega
  have h' := h
  obtain ⟨-, hd, hc, -⟩ := h
  obtain ⟨x0, x1⟩ := Dig_rd hd i (by rw [hl]; exact hi')
  obtain ⟨y0, y1⟩ := Dig_rd0 (by decide) hy i
  obtain ⟨d, e, ea, d0, d1, b0, b1, he⟩ := sub64_eq x0 x1 y0 y1 hc.1 hc.2
  refine Ev.step (f := fun k => exact_NatSub.l0 k (z.set i d) y e (x.length : Int) ((i + 1 : Nat) : Int)) (fun k => ?_) (ih (i + 1) _ _ c0 (sub_out hi' h' d0 d1 b0 b1 he))
  simp only [exact_NatSub.l0, e1]
  rw [if_pos c1]
  by_cases hy' : (i : Int) < (y.length : Int)
  ·rw [if_pos hy', if_pos (Int.natCast_nonneg _), if_pos c2, ea, Option.bind_some, Int.toNat_natCast]
  ·rw [c3 hy'] at ea
   rw [if_neg hy', if_pos (Int.natCast_nonneg _), if_pos c2, ea, Option.bind_some, Int.toNat_natCast]
theorem d64_len_mono {m n : Nat} (h : m ≤ n) : (d64 m).length ≤ (d64 n).length := dgs_len (Nat.lt_of_le_of_lt h (dgs_lt 18446744073709551614 n))
theorem NatSub_ev {m n : Nat} (hm : (nat m).size ≤ 1099511627776) (h : n ≤ m) : Ev (fun k => exact_NatSub.f k (nat m) (nat n)) (nat (m - n)) := by
 have lm := words_len m
 have hn : (nat n).size ≤ 1099511627776 := Nat.le_trans (size_mono h) hm
 refine Ev.bind (f := fun k t367 => (exact_words.f k (nat n)).bind fun t370 => exact_NatSub.l0 k t367 t370 0 (t367.length : Int) 0) (words_nat hm) (Ev.bind (words_nat hn) ?_)
 exact NatSub_l0 (d64 m) (d64 n) (d64_dig m) (d64_dig n) (by omega) (d64_len_mono h) (m - n) (by rw [d64_val, d64_val]; omega) (d64 m).length 0 _ _ (Nat.zero_add _) ⟨rfl, d64_dig m, ⟨by decide, by decide⟩, by simp [vB]⟩
theorem NatMul_ev {m n : Nat} (hm : (nat m).size ≤ 1099511627776) (hn : (nat n).size ≤ 1099511627776) : Ev (fun k => exact_NatMul.f k (nat m) (nat n)) (nat (m * n)) := by
 have lm := words_len m
 have ln := words_len n
 have hl : (d64 (m * n)).length ≤ 1099511627776 := by
  have h1 := words_len (m * n)
  have h2 := size_mul (m := m) (n := n)
  omega
 refine Ev.bind (f := fun k t422 => (exact_words.f k (nat n)).bind fun t425 => ((exact_mulWords.f k t422 t425).bind fun t428 => ((exact_pack.f k t428).bind fun t431 => (some t431)))) (words_nat hm) (Ev.bind (f := fun k t425 => ((exact_mulWords.f k (d64 m) t425).bind fun t428 => ((exact_pack.f k t428).bind fun t431 => (some t431)))) (words_nat hn) (Ev.bind (f := fun k t428 => ((exact_pack.f k t428).bind fun t431 => (some t431))) (mulWords_d64 (by omega) (by omega)) ?_))
 have := pack_ev (d64_dig (m * n)) hl
 rw [d64_val, Int.toNat_natCast] at this
 exact Ev.bind this (Ev.now _)
def cmpN (m n : Nat) : Int := if m < n then -1 else if m = n then 0 else 1
def bv (l : List UInt8) : Int := vB 256 (l.map fun b => (b.toNat : Int)).reverse
theorem bv_cons (a : UInt8) (l : List UInt8) : bv (a :: l) = bv l + 256 ^ l.length * (a.toNat : Int) := by
 unfold bv
 rw [List.map_cons, List.reverse_cons, vB_append]
 simp [vB]
theorem bv_range (l : List UInt8) : 0 ≤ bv l ∧ bv l < 256 ^ l.length := by
 have hd : Dig 256 (l.map fun b => (b.toNat : Int)).reverse := by
  apply Dig_reverse
  intro x hx
  obtain ⟨b, _, rfl⟩ := List.mem_map.1 hx
  have := b.toNat_lt
  omega
 refine ⟨vB_nonneg (by decide) hd, ?_⟩
 have := vB_lt (by decide) hd
 rw [List.length_reverse, List.length_map] at this
 exact this
theorem less_val : ∀ (x y : List UInt8), x.length = y.length → (Op.bytesLess x y = true ↔ bv x < bv y)
 | [], [], _ => by simp [Op.bytesLess]
 | [], _ :: _, h => by simp at h
 | _ :: _, [], h => by simp at h
 | a :: x, b :: y, h => by
  have h' : x.length = y.length := by simpa using h
  have ih := less_val x y h'
  obtain ⟨a0, a1⟩ := bv_range x
  obtain ⟨b0, b1⟩ := bv_range y
  rw [bv_cons, bv_cons, h'] at *
  have hP : (0 : Int) < 256 ^ y.length := Int.pow_pos (by decide)
  generalize (256 : Int) ^ y.length = P at *
  simp only [Op.bytesLess, Bool.or_eq_true, Bool.and_eq_true, decide_eq_true_eq, beq_iff_eq, ih]
  have hlt : a < b ↔ a.toNat < b.toNat := UInt8.lt_iff_toNat_lt
  have heq : a = b ↔ a.toNat = b.toNat := UInt8.toNat_inj.symm
  rw [hlt, heq]
  rcases Nat.lt_trichotomy a.toNat b.toNat with hc | hc | hc
  ·have : P * ((a.toNat : Int) + 1) ≤ P * (b.toNat : Int) := Int.mul_le_mul_of_nonneg_left (by omega) (by omega)
   rw [Int.mul_add, Int.mul_one] at this
   constructor
   ·intro _; omega
   ·intro _; exact Or.inl hc
  ·rw [hc]
   constructor
   ·rintro (h | ⟨_, h⟩)
    ·omega
    ·omega
   ·intro h; exact Or.inr ⟨rfl, by omega⟩
  ·have : P * ((b.toNat : Int) + 1) ≤ P * (a.toNat : Int) := Int.mul_le_mul_of_nonneg_left (by omega) (by omega)
   rw [Int.mul_add, Int.mul_one] at this
   constructor
   ·rintro (h | ⟨h, _⟩) <;> omega
   ·intro h; omega
theorem bv_bval (s : ByteArray) : bv s.toList = bval s := by
 unfold bv bval bytesOf
 rw [ByteArray.toList_eq]
theorem toList_len (s : ByteArray) : s.toList.length = s.size := by
 rw [ByteArray.toList_eq, data_length]
theorem less_nat {m n : Nat} (h : (nat m).size = (nat n).size) : Op.bytesLess (nat m).toList (nat n).toList = decide (m < n) := by
 have := less_val (nat m).toList (nat n).toList (by rw [toList_len, toList_len, h])
 rw [bv_bval, bv_bval, bval_nat, bval_nat, Int.ofNat_lt] at this
 rw [Bool.eq_iff_iff, this, decide_eq_true_iff]
theorem size_lt {m n : Nat} (h : (nat m).size < (nat n).size) : m < n := by
 rcases Nat.lt_or_ge m n with h1 | h1
 ·exact h1
 ·have := size_mono h1
  omega
theorem NatCmp_ev (m n : Nat) : Ev (fun k => exact_NatCmp.f k (nat m) (nat n)) (cmpN m n) := by
 have hj : ∀ b : Bool, b = decide (m < n) → Ev (fun k => exact_NatCmp.j0 k (nat m) (nat n) b) (cmpN m n) := by
  rintro b rfl
  refine Ev.step (f := fun _ => some (cmpN m n)) (fun k => ?_) (Ev.now _)
  simp only [exact_NatCmp.j0, toList_ext, nat_inj, decide_eq_true_eq, cmpN]
  split
  ·rfl
  ·split <;> rfl
 by_cases h1 : (nat m).size < (nat n).size
 ·refine Ev.congr (f := fun k => exact_NatCmp.j0 k (nat m) (nat n) true) (fun k => ?_) (hj _ (by simp [size_lt h1]))
  unfold exact_NatCmp.f
  rw [if_pos (by omega)]
 ·by_cases h2 : (nat m).size = (nat n).size
  ·refine Ev.congr (f := fun k => exact_NatCmp.j0 k (nat m) (nat n) (Op.bytesLess (nat m).toList (nat n).toList)) (fun k => ?_) (hj _ (less_nat h2))
   unfold exact_NatCmp.f
   rw [if_neg (by omega), if_pos (by omega)]
  ·refine Ev.congr (f := fun k => exact_NatCmp.j0 k (nat m) (nat n) false) (fun k => ?_) (hj _ (by
    have : n < m := size_lt (by omega)
    simp; omega))
   unfold exact_NatCmp.f
   rw [if_neg (by omega), if_neg (by omega)]
def chk (s : ByteArray) : Int := if 0 < s.size ∧ bt s 0 = 0 then 1 else if 1024 < s.size then 4 else 0
theorem Check_ev (s : ByteArray) : Ev (fun k => natural_Check.f k s) (chk s) := by
 have hj : ∀ b : Bool, (b = true ↔ 0 < s.size ∧ bt s 0 = 0) → Ev (fun k => natural_Check.j0 k s b) (chk s) := by
  intro b hb
  refine Ev.step (f := fun _ => some (chk s)) (fun k => ?_) (Ev.now _)
  unfold chk
  simp only [natural_Check.j0]
  by_cases h : b = true
  ·rw [if_pos h, if_pos (hb.1 h)]
  ·rw [if_neg h, if_neg (fun h' => h (hb.2 h'))]
   by_cases h3 : 1024 < s.size
   ·rw [if_pos (by omega), if_pos h3]
   ·rw [if_neg (by omega), if_neg h3]
 by_cases h : 0 < s.size
 ·refine Ev.congr (f := fun k => natural_Check.j0 k s (bt s 0 == 0)) (fun k => ?_) (hj _ (by simp [h]))
  unfold natural_Check.f
  rw [if_pos (by omega), if_pos (by omega)]
 ·refine Ev.congr (f := fun k => natural_Check.j0 k s false) (fun k => ?_) (hj _ (by simp [h]))
  unfold natural_Check.f
  rw [if_neg (by omega)]
theorem chk_nat {n : Nat} (h : (nat n).size ≤ 1024) : chk (nat n) = 0 := by
 unfold chk
 rw [if_neg, if_neg (by omega)]
 rintro ⟨h1, h2⟩
 rcases nat_wf n with h3 | h3
 ·omega
 ·exact h3 h2
theorem chk_zero {s : ByteArray} (h : chk s = 0) : s = nat (bval s).toNat ∧ s.size ≤ 1024 := by
 unfold chk at h
 by_cases h1 : 0 < s.size ∧ bt s 0 = 0
 ·rw [if_pos h1] at h; omega
 ·rw [if_neg h1] at h
  refine ⟨wf_nat ?_, ?_⟩
  ·rcases Nat.eq_zero_or_pos s.size with h2 | h2
   ·exact Or.inl h2
   ·exact Or.inr (fun h3 => h1 ⟨h2, h3⟩)
  ·rcases Nat.lt_or_ge 1024 s.size with h2 | h2
   ·rw [if_pos h2] at h; omega
   ·exact h2
def bnd (n : Nat) : ByteArray × Int := if 1024 < (nat n).size then (⟨#[]⟩, 4) else (nat n, 0)
end Go.Proofs.YtdhdfcjpeflinaaN
set_option linter.unusedVariables false
namespace Go.Proofs.YtdhdfcjpeflinaaN
open Go.RowKit Go.Proofs.Ytdhdfcjpeflinaa.All Go.Proofs.YtdhdfcjpeflinaaW.PrintWords Go.Proofs.YtdhdfcjpeflinaaW.PrintLast Go.Proofs.YtdhdfcjpeflinaaW.PrintMore
theorem ev_some {α β : Type} {o : Option α} {f : Nat → α → Option β} {a : α} {r : β} (h : o = some a) (k : Ev (fun n => f n a) r) : Ev (fun n => o.bind (f n)) r := by subst h; exact k
theorem number {s : ByteArray} (h : chk s = 0) : ∃ n, s = nat n ∧ (nat n).size ≤ 1024 := by
 obtain ⟨h1, h2⟩ := chk_zero h
 exact ⟨_, h1, by rw [← h1]; exact h2⟩
end Go.Proofs.YtdhdfcjpeflinaaN
set_option linter.unusedVariables false
namespace Go.Proofs.YtdhdfcjpeflinaaN
open Go.RowKit Go.Proofs.Ytdhdfcjpeflinaa.All Go.Proofs.YtdhdfcjpeflinaaW.PrintWords Go.Proofs.YtdhdfcjpeflinaaW.PrintLast Go.Proofs.YtdhdfcjpeflinaaW.PrintMore
end Go.Proofs.YtdhdfcjpeflinaaN
set_option linter.unusedVariables false
namespace Go.Proofs.YtdhdfcjpeflinaaN
open Go.RowKit Go.Proofs.Ytdhdfcjpeflinaa.All Go.Proofs.YtdhdfcjpeflinaaW.PrintWords Go.Proofs.YtdhdfcjpeflinaaW.PrintLast Go.Proofs.YtdhdfcjpeflinaaW.PrintMore
end Go.Proofs.YtdhdfcjpeflinaaN
set_option linter.unusedVariables false
namespace Go.Proofs.YtdhdfcjpeflinaaN
open Go.RowKit Go.Proofs.Ytdhdfcjpeflinaa.All Go.Proofs.YtdhdfcjpeflinaaW.PrintWords Go.Proofs.YtdhdfcjpeflinaaW.PrintLast Go.Proofs.YtdhdfcjpeflinaaW.PrintMore
end Go.Proofs.YtdhdfcjpeflinaaN
set_option linter.unusedVariables false
namespace Go.Proofs.YtdhdfcjpeflinaaN
open Go.RowKit Go.Proofs.Ytdhdfcjpeflinaa.All Go.Proofs.YtdhdfcjpeflinaaW.PrintWords Go.Proofs.YtdhdfcjpeflinaaW.PrintLast Go.Proofs.YtdhdfcjpeflinaaW.PrintMore
end Go.Proofs.YtdhdfcjpeflinaaN
set_option linter.unusedVariables false
namespace Go.Proofs.YtdhdfcjpeflinaaN
open Go.RowKit Go.Proofs.Ytdhdfcjpeflinaa.All Go.Proofs.YtdhdfcjpeflinaaW.PrintWords Go.Proofs.YtdhdfcjpeflinaaW.PrintLast Go.Proofs.YtdhdfcjpeflinaaW.PrintMore
end Go.Proofs.YtdhdfcjpeflinaaN
set_option linter.unusedVariables false
namespace Go.Proofs.YtdhdfcjpeflinaaN
open Go.RowKit Go.Proofs.Ytdhdfcjpeflinaa.All Go.Proofs.YtdhdfcjpeflinaaW.PrintWords Go.Proofs.YtdhdfcjpeflinaaW.PrintLast Go.Proofs.YtdhdfcjpeflinaaW.PrintMore
end Go.Proofs.YtdhdfcjpeflinaaN
set_option linter.unusedVariables false
namespace Go.Proofs.YtdhdfcjpeflinaaN
open Go.RowKit Go.Proofs.Ytdhdfcjpeflinaa.All Go.Proofs.YtdhdfcjpeflinaaW.PrintWords Go.Proofs.YtdhdfcjpeflinaaW.PrintLast Go.Proofs.YtdhdfcjpeflinaaW.PrintMore
theorem nat_empty {n : Nat} : (nat n).toList = ([] : List UInt8) ↔ n = 0 := by rw [toList_nil, nat_size_zero]
end Go.Proofs.YtdhdfcjpeflinaaN
set_option linter.unusedVariables false
namespace Go.Proofs.YtdhdfcjpeflinaaN
open Go.RowKit Go.Proofs.Ytdhdfcjpeflinaa.All Go.Proofs.YtdhdfcjpeflinaaW.PrintWords Go.Proofs.YtdhdfcjpeflinaaW.PrintLast Go.Proofs.YtdhdfcjpeflinaaW.PrintMore
def bl (n : Nat) : Nat := if n = 0 then 0 else n.log2 + 1
end Go.Proofs.YtdhdfcjpeflinaaN
set_option linter.unusedVariables false
namespace Go.Proofs.YtdhdfcjpeflinaaN
open Go.RowKit Go.Proofs.Ytdhdfcjpeflinaa.All Go.Proofs.YtdhdfcjpeflinaaW.PrintWords Go.Proofs.YtdhdfcjpeflinaaW.PrintLast Go.Proofs.YtdhdfcjpeflinaaW.PrintMore
end Go.Proofs.YtdhdfcjpeflinaaN
set_option linter.unusedVariables false
namespace Go.Proofs.YtdhdfcjpeflinaaN
open Go.RowKit Go.Proofs.Ytdhdfcjpeflinaa.All Go.Proofs.YtdhdfcjpeflinaaW.PrintWords Go.Proofs.YtdhdfcjpeflinaaW.PrintLast Go.Proofs.YtdhdfcjpeflinaaW.PrintMore
abbrev B32 : Int := 4294967296
end Go.Proofs.YtdhdfcjpeflinaaN
set_option linter.unusedVariables false
namespace Go.Proofs.YtdhdfcjpeflinaaN
open Go.RowKit Go.Proofs.Ytdhdfcjpeflinaa.All Go.Proofs.YtdhdfcjpeflinaaW.PrintWords Go.Proofs.YtdhdfcjpeflinaaW.PrintLast Go.Proofs.YtdhdfcjpeflinaaW.PrintMore
end Go.Proofs.YtdhdfcjpeflinaaN
set_option linter.unusedVariables false
namespace Go.Proofs.YtdhdfcjpeflinaaN
open Go.RowKit Go.Proofs.Ytdhdfcjpeflinaa.All Go.Proofs.YtdhdfcjpeflinaaW.PrintWords Go.Proofs.YtdhdfcjpeflinaaW.PrintLast Go.Proofs.YtdhdfcjpeflinaaW.PrintMore
end Go.Proofs.YtdhdfcjpeflinaaN
set_option linter.unusedVariables false
namespace Go.Proofs.YtdhdfcjpeflinaaN
open Go.RowKit Go.Proofs.Ytdhdfcjpeflinaa.All Go.Proofs.YtdhdfcjpeflinaaW.PrintWords Go.Proofs.YtdhdfcjpeflinaaW.PrintLast Go.Proofs.YtdhdfcjpeflinaaW.PrintMore
end Go.Proofs.YtdhdfcjpeflinaaN
set_option linter.unusedVariables false
namespace Go.Proofs.YtdhdfcjpeflinaaN
open Go.RowKit Go.Proofs.Ytdhdfcjpeflinaa.All Go.Proofs.YtdhdfcjpeflinaaW.PrintWords Go.Proofs.YtdhdfcjpeflinaaW.PrintLast Go.Proofs.YtdhdfcjpeflinaaW.PrintMore
def d10 (n : Nat) : List Int := dgs 8 n
def txt (D : List Int) : List Int := D.map (fun x => 48 + x)
def dec (n : Nat) : ByteArray := if n = 0 then ⟨#[48]⟩ else strOfNums (txt (d10 n)).reverse
def digit (s : ByteArray) (i : Nat) : Prop := 48 ≤ bt s (i : Int) ∧ bt s (i : Int) ≤ 57
instance (s : ByteArray) (i : Nat) : Decidable (digit s i) := by unfold digit; infer_instance
def digits (s : ByteArray) : Prop := ∀ i : Nat, i < s.size → digit s i
instance (s : ByteArray) : Decidable (digits s) := by unfold digits; infer_instance
def bad0 (s : ByteArray) : Prop := s.size = 0 ∨ (1 < s.size ∧ bt s 0 = 48)
instance (s : ByteArray) : Decidable (bad0 s) := by unfold bad0; infer_instance
end Go.Proofs.YtdhdfcjpeflinaaN
set_option linter.unusedVariables false
namespace Go.Proofs.YtdhdfcjpeflinaaN
open Go.RowKit Go.Proofs.Ytdhdfcjpeflinaa.All Go.Proofs.YtdhdfcjpeflinaaW.PrintWords Go.Proofs.YtdhdfcjpeflinaaW.PrintLast Go.Proofs.YtdhdfcjpeflinaaW.PrintMore
end Go.Proofs.YtdhdfcjpeflinaaN
set_option linter.unusedVariables false
namespace Go.Proofs.YtdhdfcjpeflinaaN
open Go.RowKit Go.Proofs.Ytdhdfcjpeflinaa.All Go.Proofs.YtdhdfcjpeflinaaW.PrintWords Go.Proofs.YtdhdfcjpeflinaaW.PrintLast Go.Proofs.YtdhdfcjpeflinaaW.PrintMore
end Go.Proofs.YtdhdfcjpeflinaaN
set_option linter.unusedVariables false
namespace Go.Proofs.YtdhdfcjpeflinaaN
open Go.RowKit Go.Proofs.Ytdhdfcjpeflinaa.All Go.Proofs.YtdhdfcjpeflinaaW.PrintWords Go.Proofs.YtdhdfcjpeflinaaW.PrintLast Go.Proofs.YtdhdfcjpeflinaaW.PrintMore
end Go.Proofs.YtdhdfcjpeflinaaN
set_option linter.unusedVariables false
namespace Go.Proofs.YtdhdfcjpeflinaaN
open Go.RowKit Go.Proofs.Ytdhdfcjpeflinaa.All Go.Proofs.YtdhdfcjpeflinaaW.PrintWords Go.Proofs.YtdhdfcjpeflinaaW.PrintLast Go.Proofs.YtdhdfcjpeflinaaW.PrintMore
end Go.Proofs.YtdhdfcjpeflinaaN
set_option linter.unusedVariables false
namespace Go.Proofs.YtdhdfcjpeflinaaN
open Go.RowKit Go.Proofs.Ytdhdfcjpeflinaa.All Go.Proofs.YtdhdfcjpeflinaaW.PrintWords Go.Proofs.YtdhdfcjpeflinaaW.PrintLast Go.Proofs.YtdhdfcjpeflinaaW.PrintMore
end Go.Proofs.YtdhdfcjpeflinaaN
set_option linter.unusedVariables false
namespace Go.Proofs.YtdhdfcjpeflinaaN
open Go.RowKit Go.Proofs.Ytdhdfcjpeflinaa.All Go.Proofs.YtdhdfcjpeflinaaW.PrintWords Go.Proofs.YtdhdfcjpeflinaaW.PrintLast Go.Proofs.YtdhdfcjpeflinaaW.PrintMore
end Go.Proofs.YtdhdfcjpeflinaaN
set_option linter.unusedVariables false
namespace Go.Proofs.YtdhdfcjpeflinaaN
open Go.RowKit Go.Proofs.Ytdhdfcjpeflinaa.All Go.Proofs.YtdhdfcjpeflinaaW.PrintWords Go.Proofs.YtdhdfcjpeflinaaW.PrintLast Go.Proofs.YtdhdfcjpeflinaaW.PrintMore
end Go.Proofs.YtdhdfcjpeflinaaN
set_option linter.unusedVariables false
namespace Go.Proofs.YtdhdfcjpeflinaaN
open Go.RowKit Go.Proofs.Ytdhdfcjpeflinaa.All Go.Proofs.YtdhdfcjpeflinaaW.PrintWords Go.Proofs.YtdhdfcjpeflinaaW.PrintLast Go.Proofs.YtdhdfcjpeflinaaW.PrintMore
def ng (x : Int) : Bool := decide (x < 0)
def ab (x : Int) : ByteArray := nat x.natAbs
def sg (s : Bool) (n : Nat) : Int := if s then -(n : Int) else n
theorem sg_true (n : Nat) : sg true n = -(n : Int) := rfl
theorem sg_false (n : Nat) : sg false n = (n : Int) := rfl
theorem ng_sg (s : Bool) (n : Nat) : ng (sg s n) = (s && !decide (n = 0)) := by
 cases s
 ·exact decide_eq_false (by rw [sg_false]; omega)
 ·by_cases h : n = 0
  ·subst h
   rfl
  ·rw [decide_eq_false h]
   exact decide_eq_true (by rw [sg_true]; omega)
theorem ab_sg (s : Bool) (n : Nat) : ab (sg s n) = nat n := by
 unfold ab
 cases s
 ·rw [sg_false, Int.natAbs_natCast]
 ·rw [sg_true, Int.natAbs_neg, Int.natAbs_natCast]
theorem ng_pos {x : Int} (h : 0 ≤ x) : ng x = false := decide_eq_false (by omega)
theorem ng_neg {x : Int} (h : x < 0) : ng x = true := decide_eq_true h
theorem isEmpty_nat (n : Nat) : (nat n).toList.isEmpty = decide (n = 0) := by
 by_cases h : n = 0
 ·rw [decide_eq_true h, List.isEmpty_iff]
  exact nat_empty.2 h
 ·rw [decide_eq_false h, Bool.eq_false_iff]
  intro h'
  exact h (nat_empty.1 (List.isEmpty_iff.1 h'))
theorem ab_size_zero {x : Int} : (ab x).size = 0 ↔ x = 0 := by unfold ab; rw [nat_size_zero]; omega
theorem ab_empty {x : Int} : (ab x).toList = ([] : List UInt8) ↔ x = 0 := by unfold ab; rw [nat_empty]; omega
theorem IMake_eq (s : Bool) (n : Nat) : exact_IntMake.f s (nat n) = some (ng (sg s n), ab (sg s n)) := by
 unfold exact_IntMake.f
 rw [ng_sg, ab_sg, isEmpty_nat]
 cases s
 ·rw [if_neg Bool.false_ne_true, Bool.false_and]
 ·rw [if_pos rfl, Bool.true_and]
theorem abs_cases (x : Int) : (x < 0 ∧ ng x = true ∧ (x.natAbs : Int) = -x) ∨ (0 ≤ x ∧ ng x = false ∧ (x.natAbs : Int) = x) := by
 by_cases h : x < 0
 ·exact Or.inl ⟨h, ng_neg h, by omega⟩
 ·exact Or.inr ⟨by omega, ng_pos (by omega), by omega⟩
theorem sg_mul (x y : Int) : sg (ng x != ng y) (x.natAbs * y.natAbs) = x * y := by
 rcases abs_cases x with ⟨h, h1, h2⟩ | ⟨h, h1, h2⟩ <;> rcases abs_cases y with ⟨k, k1, k2⟩ | ⟨k, k1, k2⟩ <;> rw [h1, k1]
 ·show ((x.natAbs * y.natAbs : Nat) : Int) = _
  rw [Int.natCast_mul, h2, k2, Int.neg_mul_neg]
 ·show -((x.natAbs * y.natAbs : Nat) : Int) = _
  rw [Int.natCast_mul, h2, k2, Int.neg_mul, Int.neg_neg]
 ·show -((x.natAbs * y.natAbs : Nat) : Int) = _
  rw [Int.natCast_mul, h2, k2, Int.mul_neg, Int.neg_neg]
 ·show ((x.natAbs * y.natAbs : Nat) : Int) = _
  rw [Int.natCast_mul, h2, k2]
theorem IMul_ev {x y : Int} (hx : (ab x).size ≤ 1099511627776) (hy : (ab y).size ≤ 1099511627776) : Ev (fun k => exact_IntMul.f k (ng x) (ab x) (ng y) (ab y)) (ng (x * y), ab (x * y)) := by
 refine Ev.bind (NatMul_ev hx hy) (ev_some (IMake_eq _ _) ?_)
 rw [sg_mul]
 exact Ev.now _
theorem IAdd_ev {x y : Int} (hx : (ab x).size ≤ 1099511627776) (hy : (ab y).size ≤ 1099511627776) : Ev (fun k => exact_IntAdd.f k (ng x) (ab x) (ng y) (ab y)) (ng (x + y), ab (x + y)) := by
 by_cases hs : (ng x == ng y) = true
 ·refine Ev.congr (fun k => if_pos hs) (Ev.bind (NatAdd_ev hx hy) (ev_some (IMake_eq _ _) ?_))
  have e : sg (ng x) (x.natAbs + y.natAbs) = x + y := by
   rcases abs_cases x with ⟨h, h1, h2⟩ | ⟨h, h1, h2⟩ <;> rcases abs_cases y with ⟨k, k1, k2⟩ | ⟨k, k1, k2⟩ <;> rw [h1, k1] at hs <;> first | (exact absurd hs (by decide)) | (rw [h1]; simp only [sg_true, sg_false]; omega)
  rw [e]
  exact Ev.now _
 ·refine Ev.congr (fun k => if_neg hs) (Ev.bind (NatCmp_ev x.natAbs y.natAbs) ?_)
  have hc : cmpN x.natAbs y.natAbs < 0 ↔ x.natAbs < y.natAbs := by
   unfold cmpN
   by_cases h : x.natAbs < y.natAbs
   ·rw [if_pos h]; exact ⟨fun _ => h, fun _ => by decide⟩
   ·rw [if_neg h]
    by_cases h2 : x.natAbs = y.natAbs
    ·rw [if_pos h2]; exact ⟨fun h' => absurd h' (by decide), fun h' => absurd h' h⟩
    ·rw [if_neg h2]; exact ⟨fun h' => absurd h' (by decide), fun h' => absurd h' h⟩
  by_cases hlt : x.natAbs < y.natAbs
  ·refine Ev.congr (fun k => if_pos (hc.2 hlt)) (Ev.bind (NatSub_ev hy (Nat.le_of_lt hlt)) (ev_some (IMake_eq _ _) ?_))
   have e : sg (ng y) (y.natAbs - x.natAbs) = x + y := by
    rcases abs_cases x with ⟨h, h1, h2⟩ | ⟨h, h1, h2⟩ <;> rcases abs_cases y with ⟨k, k1, k2⟩ | ⟨k, k1, k2⟩ <;> rw [h1, k1] at hs <;> first | (exact absurd rfl hs) | (rw [k1]; simp only [sg_true, sg_false]; omega)
   rw [e]
   exact Ev.now _
  ·refine Ev.congr (fun k => if_neg (fun h => hlt (hc.1 h))) (Ev.bind (NatSub_ev hx (Nat.le_of_not_lt hlt)) (ev_some (IMake_eq _ _) ?_))
   have e : sg (ng x) (x.natAbs - y.natAbs) = x + y := by
    rcases abs_cases x with ⟨h, h1, h2⟩ | ⟨h, h1, h2⟩ <;> rcases abs_cases y with ⟨k, k1, k2⟩ | ⟨k, k1, k2⟩ <;> rw [h1, k1] at hs <;> first | (exact absurd rfl hs) | (rw [h1]; simp only [sg_true, sg_false]; omega)
   rw [e]
   exact Ev.now _
theorem sg_neg (x : Int) : sg (!ng x) x.natAbs = -x := by
 rcases abs_cases x with ⟨h, h1, h2⟩ | ⟨h, h1, h2⟩
 ·rw [h1]; show ((x.natAbs : Nat) : Int) = _; omega
 ·rw [h1]; show -((x.natAbs : Nat) : Int) = _; omega
theorem ab_neg (x : Int) : ab (-x) = ab x := by unfold ab; rw [Int.natAbs_neg]
theorem INeg_eq (x : Int) : exact_IntNeg.f (ng x) (ab x) = some (ng (-x), ab (-x)) := by
 unfold exact_IntNeg.f
 rw [show exact_IntMake.f (!ng x) (ab x) = _ from IMake_eq _ _, sg_neg]
 rfl
theorem ISub_ev {x y : Int} (hx : (ab x).size ≤ 1099511627776) (hy : (ab y).size ≤ 1099511627776) : Ev (fun k => exact_IntSub.f k (ng x) (ab x) (ng y) (ab y)) (ng (x - y), ab (x - y)) := by
 refine ev_some (INeg_eq y) ?_
 refine Ev.bind (IAdd_ev hx (y := -y) (by rw [ab_neg]; exact hy)) ?_
 rw [show x + -y = x - y from rfl]
 exact Ev.now _
def cmpI (x y : Int) : Int := if x < y then -1 else if x = y then 0 else 1
theorem cmpI_pos {x y : Int} (hx : 0 ≤ x) (hy : 0 ≤ y) : cmpN x.natAbs y.natAbs = cmpI x y := by
 unfold cmpN cmpI
 have e1 : x.natAbs < y.natAbs ↔ x < y := by omega
 have e2 : x.natAbs = y.natAbs ↔ x = y := by omega
 simp only [e1, e2]
theorem cmpI_neg {x y : Int} (hx : x < 0) (hy : y < 0) : cmpN y.natAbs x.natAbs = cmpI x y := by
 unfold cmpN cmpI
 have e1 : y.natAbs < x.natAbs ↔ x < y := by omega
 have e2 : y.natAbs = x.natAbs ↔ x = y := by omega
 simp only [e1, e2]
theorem ICmp_ev (x y : Int) : Ev (fun k => exact_IntCmp.f k (ng x) (ab x) (ng y) (ab y)) (cmpI x y) := by
 rcases abs_cases x with ⟨h, h1, h2⟩ | ⟨h, h1, h2⟩ <;> rcases abs_cases y with ⟨k, k1, k2⟩ | ⟨k, k1, k2⟩ <;> rw [h1, k1]
 ·refine Ev.congr (fun k => if_neg (by decide)) (Ev.congr (fun k => if_pos rfl) (Ev.bind (NatCmp_ev y.natAbs x.natAbs) ?_))
  rw [cmpI_neg h k]
  exact Ev.now _
 ·rw [show cmpI x y = -1 from if_pos (by omega)]
  exact Ev.congr (fun k => if_pos rfl) (Ev.congr (fun k => if_pos rfl) (Ev.now _))
 ·rw [show cmpI x y = 1 from (if_neg (by omega)).trans (if_neg (by omega))]
  exact Ev.congr (fun k => if_pos rfl) (Ev.congr (fun k => if_neg Bool.false_ne_true) (Ev.now _))
 ·refine Ev.congr (fun k => if_neg (by decide)) (Ev.congr (fun k => if_neg Bool.false_ne_true) (Ev.bind (NatCmp_ev x.natAbs y.natAbs) ?_))
  rw [cmpI_pos h k]
  exact Ev.now _
end Go.Proofs.YtdhdfcjpeflinaaN
set_option linter.unusedVariables false
namespace Go.Proofs.YtdhdfcjpeflinaaN
open Go.RowKit Go.Proofs.Ytdhdfcjpeflinaa.All Go.Proofs.YtdhdfcjpeflinaaW.PrintWords Go.Proofs.YtdhdfcjpeflinaaW.PrintLast Go.Proofs.YtdhdfcjpeflinaaW.PrintMore
def ick (s : Bool) (a : ByteArray) : Int := if chk a = 1 then 1 else if s = true ∧ a.size = 0 then 1 else chk a
theorem rValid_eq (s : ByteArray) : galoisref01_Valid.f s = some (decide (s.size = 0 ∨ bt s 0 ≠ 0)) := by
 unfold galoisref01_Valid.f
 by_cases h : s.size = 0
 ·rw [if_pos (toList_nil.2 h)]
  simp [h]
 ·rw [if_neg (fun h' => h (toList_nil.1 h')), if_pos (by omega)]
  by_cases h2 : bt s 0 = 0 <;> simp [h, h2]
theorem chk_one {a : ByteArray} : chk a = 1 ↔ ¬ (a.size = 0 ∨ bt a 0 ≠ 0) := by
 unfold chk
 by_cases h : 0 < a.size ∧ bt a 0 = 0
 ·rw [if_pos h]
  refine ⟨fun _ h' => ?_, fun _ => rfl⟩
  rcases h' with h' | h'
  ·omega
  ·exact h' h.2
 ·rw [if_neg h]
  refine ⟨fun h' => ?_, fun h' => absurd ⟨Nat.pos_of_ne_zero fun h2 => h' (Or.inl h2), ?_⟩ h⟩
  ·split at h' <;> exact absurd h' (by decide)
  ·rcases Decidable.em (bt a 0 = 0) with h2 | h2
   ·exact h2
   ·exact absurd (Or.inr h2) h'
theorem chk_rest {a : ByteArray} (h : chk a ≠ 1) : chk a = if (a.size : Int) > 1024 then 4 else 0 := by
 have h1 : ¬ (0 < a.size ∧ bt a 0 = 0) := fun h' => h (by unfold chk; rw [if_pos h'])
 unfold chk
 rw [if_neg h1]
 by_cases h2 : 1024 < a.size
 ·rw [if_pos h2, if_pos (by omega)]
 ·rw [if_neg h2, if_neg (by omega)]
theorem rFits1_eq (a : ByteArray) : galoisref01_Fits.f a = some (if (a.size : Int) > 1024 then 4 else 0) := by
 unfold galoisref01_Fits.f
 by_cases h : (a.size : Int) > 1024
 ·rw [if_pos h, if_pos h]
 ·rw [if_neg h, if_neg h]
theorem rFits_eq (s : Bool) (a : ByteArray) : galoisref02_Fits.f s a = some (if (a.size : Int) > 1024 then 4 else 0) := by
 unfold galoisref02_Fits.f
 rw [rFits1_eq]
 rfl
theorem rValid2_eq (s : Bool) (a : ByteArray) : galoisref02_Valid.f s a = some (decide ((a.size = 0 ∨ bt a 0 ≠ 0) ∧ ¬ (s = true ∧ a.size = 0))) := by
 unfold galoisref02_Valid.f
 rw [rValid_eq, Option.bind_some]
 by_cases h : a.size = 0 ∨ bt a 0 ≠ 0
 ·rw [if_pos (decide_eq_true h)]
  cases s
  ·rw [if_neg Bool.false_ne_true]
   congr 1
   exact (decide_eq_true ⟨h, fun h' => Bool.false_ne_true h'.1⟩).symm
  ·rw [if_pos rfl]
   congr 1
   by_cases h2 : a.size = 0
   ·rw [decide_eq_false (fun h' => h'.2 ⟨rfl, h2⟩)]
    exact bne_eq_false_iff_eq.2 (toList_nil.2 h2)
   ·have e : (a.size = 0 ∨ bt a 0 ≠ 0) ∧ ¬ (true = true ∧ a.size = 0) := ⟨h, fun h' => h2 h'.2⟩
    rw [decide_eq_true e]
    exact bne_iff_ne.2 (fun h' => h2 (toList_nil.1 h'))
 ·rw [if_neg (by rw [decide_eq_true_eq]; exact h), decide_eq_false (fun h' => h h'.1)]
theorem rCheck_eq (s : Bool) (a : ByteArray) : galoisref02_Check.f s a = some (ick s a) := by
 unfold galoisref02_Check.f ick
 rw [rValid2_eq, Option.bind_some]
 by_cases h1 : chk a = 1
 ·rw [if_pos h1, if_neg (by rw [decide_eq_true_eq]; exact fun h' => chk_one.1 h1 h'.1)]
 ·have hv : a.size = 0 ∨ bt a 0 ≠ 0 := by
   rcases Decidable.em (a.size = 0 ∨ bt a 0 ≠ 0) with h | h
   ·exact h
   ·exact absurd (chk_one.2 h) h1
  rw [if_neg h1]
  by_cases h2 : s = true ∧ a.size = 0
  ·rw [if_pos h2, if_neg (by rw [decide_eq_true_eq]; exact fun h' => h'.2 h2)]
  ·rw [if_neg h2, if_pos (decide_eq_true ⟨hv, h2⟩), rFits_eq, chk_rest h1]
   rfl
end Go.Proofs.YtdhdfcjpeflinaaN
set_option linter.unusedVariables false
namespace Go.Proofs.YtdhdfcjpeflinaaN
open Go.RowKit Go.Proofs.Ytdhdfcjpeflinaa.All Go.Proofs.YtdhdfcjpeflinaaW.PrintWords Go.Proofs.YtdhdfcjpeflinaaW.PrintLast Go.Proofs.YtdhdfcjpeflinaaW.PrintMore
theorem ick_zero {s : Bool} {a : ByteArray} (h : ick s a = 0) : ∃ x : Int, s = ng x ∧ a = ab x ∧ (ab x).size ≤ 1024 := by
 unfold ick at h
 by_cases h1 : chk a = 1
 ·rw [if_pos h1] at h
  exact absurd h (by decide)
 ·rw [if_neg h1] at h
  by_cases h2 : s = true ∧ a.size = 0
  ·rw [if_pos h2] at h
   exact absurd h (by decide)
  ·rw [if_neg h2] at h
   obtain ⟨n, rfl, hn⟩ := number h
   refine ⟨sg s n, ?_, (ab_sg s n).symm, by rw [ab_sg]; exact hn⟩
   rw [ng_sg]
   cases s
   ·rfl
   ·rw [Bool.true_and, decide_eq_false (fun h3 => h2 ⟨rfl, by rw [h3, nat_zero]; rfl⟩)]
    rfl
theorem ick_int {x : Int} (h : (ab x).size ≤ 1024) : ick (ng x) (ab x) = 0 := by
 unfold ick
 have hc : chk (ab x) = 0 := chk_nat h
 rw [hc, if_neg (by decide), if_neg]
 rintro ⟨h1, h2⟩
 have := ab_size_zero.1 h2
 rw [this] at h1
 exact absurd h1 (by decide)
theorem empty_toList' : (⟨#[]⟩ : ByteArray).toList = ([] : List UInt8) := toList_nil.2 rfl
theorem iCheck_ev (s : Bool) (a : ByteArray) : Ev (fun k => integer_Check.f k s a) (ick s a) := by
 refine Ev.bind (Check_ev a) ?_
 by_cases h1 : chk a = 1
 ·have e : ick s a = chk a := by unfold ick; rw [if_pos h1, h1]
  rw [e]
  exact Ev.congr (fun k => if_pos h1) (Ev.now _)
 ·refine Ev.congr (fun k => if_neg h1) (ev_some (a := (false, (⟨#[]⟩ : ByteArray))) rfl ?_)
  by_cases h2 : a.size = 0
  ·have h3 : a.toList = ([] : List UInt8) := toList_nil.2 h2
   cases s
   ·have e : ick false a = chk a := by unfold ick; rw [if_neg h1, if_neg (fun h => Bool.false_ne_true h.1)]
    rw [e]
    exact Ev.congr (fun k => if_neg (by rw [h3, empty_toList']; decide)) (Ev.now _)
   ·have e : ick true a = 1 := by unfold ick; rw [if_neg h1, if_pos ⟨rfl, h2⟩]
    rw [e]
    exact Ev.congr (fun k => if_pos rfl) (Ev.congr (fun k => if_pos h3) (Ev.now _))
  ·have h3 : a.toList ≠ ([] : List UInt8) := fun h => h2 (toList_nil.1 h)
   have e : ick s a = chk a := by unfold ick; rw [if_neg h1, if_neg (fun h => h2 h.2)]
   rw [e]
   by_cases h4 : (!(s == false) || (!(a.toList == (⟨#[]⟩ : ByteArray).toList))) = true
   ·exact Ev.congr (fun k => if_pos h4) (Ev.congr (fun k => if_neg h3) (Ev.now _))
   ·exact Ev.congr (fun k => if_neg h4) (Ev.now _)
def ick2 (s : Bool) (a : ByteArray) (t : Bool) (b : ByteArray) : Int := if ick s a = 0 then ick t b else ick s a
theorem expected2_eq (s : Bool) (a : ByteArray) (t : Bool) (b : ByteArray) : galoislaw02_expected.f s a t b = some (ick2 s a t b) := by
 unfold galoislaw02_expected.f ick2
 rw [rCheck_eq, rCheck_eq, Option.bind_some]
 by_cases h : ick s a = 0
 ·rw [if_pos h, if_pos h]
  rfl
 ·rw [if_neg h, if_neg h]
  rfl
theorem ick2_zero {s : Bool} {a : ByteArray} {t : Bool} {b : ByteArray} (h : ick2 s a t b = 0) : ick s a = 0 ∧ ick t b = 0 := by
 unfold ick2 at h
 by_cases h1 : ick s a = 0
 ·rw [if_pos h1] at h
  exact ⟨h1, h⟩
 ·rw [if_neg h1] at h
  exact absurd h h1
theorem wrap01 : wrap64 (0 + 1) = 1 := by unfold wrap64; omega
theorem wrap11 : wrap64 (1 + 1) = 2 := by unfold wrap64; omega
theorem ifirst2 (s : Bool) (a : ByteArray) (t : Bool) (b : ByteArray) : Ev (fun k => integer_first.f k [⟨s, a⟩, ⟨t, b⟩]) (ick2 s a t b) := by
 show Ev (fun k => integer_first.l0 k [⟨s, a⟩, ⟨t, b⟩] 2 0) _
 refine Ev.step (fun k => integer_first.l0.eq_2 ..) (Ev.congr (fun k => if_pos (by decide)) (Ev.congr (fun k => if_pos (by decide)) (Ev.congr (fun k => if_pos (show (0 : Int) < 2 by decide)) (Ev.bind (iCheck_ev s a) ?_))))
 by_cases h : ick s a = 0
 ·have e : ick2 s a t b = ick t b := by unfold ick2; rw [if_pos h]
  rw [e]
  refine Ev.congr (fun k => if_pos h) ?_
  rw [wrap01]
  refine Ev.step (fun k => integer_first.l0.eq_2 ..) (Ev.congr (fun k => if_pos (by decide)) (Ev.congr (fun k => if_pos (by decide)) (Ev.congr (fun k => if_pos (show (1 : Int) < 2 by decide)) (Ev.bind (iCheck_ev t b) ?_))))
  by_cases h2 : ick t b = 0
  ·refine Ev.congr (fun k => if_pos h2) ?_
   rw [wrap11, h2]
   exact Ev.step (fun k => integer_first.l0.eq_2 ..) (Ev.congr (fun k => if_neg (by decide)) (Ev.now _))
  ·exact Ev.congr (fun k => if_neg h2) (Ev.now _)
 ·have e : ick2 s a t b = ick s a := by unfold ick2; rw [if_neg h]
  rw [e]
  exact Ev.congr (fun k => if_neg h) (Ev.now _)
theorem ifirst1 (s : Bool) (a : ByteArray) : Ev (fun k => integer_first.f k [⟨s, a⟩]) (ick s a) := by
 show Ev (fun k => integer_first.l0 k [⟨s, a⟩] 1 0) _
 refine Ev.step (fun k => integer_first.l0.eq_2 ..) (Ev.congr (fun k => if_pos (by decide)) (Ev.congr (fun k => if_pos (by decide)) (Ev.congr (fun k => if_pos (show (0 : Int) < 1 by decide)) (Ev.bind (iCheck_ev s a) ?_))))
 by_cases h : ick s a = 0
 ·refine Ev.congr (fun k => if_pos h) ?_
  rw [wrap01, h]
  exact Ev.step (fun k => integer_first.l0.eq_2 ..) (Ev.congr (fun k => if_neg (by decide)) (Ev.now _))
 ·exact Ev.congr (fun k => if_neg h) (Ev.now _)
def ibnd (x : Int) : Bool × ByteArray × Int := if ((ab x).size : Int) > 1024 then (false, ⟨#[]⟩, 4) else (ng x, ab x, 0)
theorem bnd_some (x : Int) : (if ((ab x).size : Int) > 1024 then some (false, (⟨#[]⟩ : ByteArray), (4 : Int)) else some (ng x, ab x, 0)) = some (ibnd x) := by
 unfold ibnd
 by_cases h : ((ab x).size : Int) > 1024
 ·rw [if_pos h, if_pos h]
 ·rw [if_neg h, if_neg h]
theorem ibnd_ok {x : Int} (h : (ab x).size ≤ 1024) : ibnd x = (ng x, ab x, 0) := if_neg (by omega)
section
variable {x y : Int} (hx : (ab x).size ≤ 1024) (hy : (ab y).size ≤ 1024)
theorem ok2 {x y : Int} (hx : (ab x).size ≤ 1024) (hy : (ab y).size ≤ 1024) : ick2 (ng x) (ab x) (ng y) (ab y) = 0 := by
 unfold ick2
 rw [if_pos (ick_int hx), ick_int hy]
include hx in
theorem iNeg_ev : Ev (fun k => integer_Neg.f k (ng x) (ab x)) (ibnd (-x)) := by
 have h := ifirst1 (ng x) (ab x)
 rw [ick_int hx] at h
 exact Ev.bind h (Ev.congr (fun k => if_pos rfl) (ev_some (INeg_eq x) (Ev.congr (fun k => bnd_some _) (Ev.now _))))
include hx in
include hx hy in
theorem iAdd_ev : Ev (fun k => integer_Add.f k (ng x) (ab x) (ng y) (ab y)) (ibnd (x + y)) := by
 have h := ifirst2 (ng x) (ab x) (ng y) (ab y)
 rw [ok2 hx hy] at h
 exact Ev.bind h (Ev.congr (fun k => if_pos rfl) (Ev.bind (IAdd_ev (by omega) (by omega)) (Ev.congr (fun k => bnd_some _) (Ev.now _))))
include hx hy in
theorem iSub_ev : Ev (fun k => integer_Sub.f k (ng x) (ab x) (ng y) (ab y)) (ibnd (x - y)) := by
 have h := ifirst2 (ng x) (ab x) (ng y) (ab y)
 rw [ok2 hx hy] at h
 exact Ev.bind h (Ev.congr (fun k => if_pos rfl) (Ev.bind (ISub_ev (by omega) (by omega)) (Ev.congr (fun k => bnd_some _) (Ev.now _))))
include hx hy in
theorem iMul_ev : Ev (fun k => integer_Mul.f k (ng x) (ab x) (ng y) (ab y)) (ibnd (x * y)) := by
 have h := ifirst2 (ng x) (ab x) (ng y) (ab y)
 rw [ok2 hx hy] at h
 exact Ev.bind h (Ev.congr (fun k => if_pos rfl) (Ev.bind (IMul_ev (by omega) (by omega)) (Ev.congr (fun k => bnd_some _) (Ev.now _))))
include hx hy in
include hx hy in
theorem iCompare_ev : Ev (fun k => integer_Compare.f k (ng x) (ab x) (ng y) (ab y)) (cmpI x y, 0) := by
 have h := ifirst2 (ng x) (ab x) (ng y) (ab y)
 rw [ok2 hx hy] at h
 exact Ev.bind h (Ev.congr (fun k => if_pos rfl) (Ev.bind (ICmp_ev x y) (Ev.now _)))
include hx in
include hx hy in
include hx in
end
theorem ilong_eq (s : Bool) (a : ByteArray) (t : Bool) (b : ByteArray) (n : Int) : galoislaw02_long.f s a t b n = some (decide ((a.size : Int) > n) || decide ((b.size : Int) > n)) := by
 unfold galoislaw02_long.f
 by_cases h : (a.size : Int) > n
 ·rw [if_pos h, decide_eq_true h]
  rfl
 ·rw [if_neg h, decide_eq_false h]
  rfl
end Go.Proofs.YtdhdfcjpeflinaaN
set_option linter.unusedVariables false
namespace Go.Proofs.YtdhdfcjpeflinaaN
open Go.RowKit Go.Proofs.Ytdhdfcjpeflinaa.All Go.Proofs.YtdhdfcjpeflinaaW.PrintWords Go.Proofs.YtdhdfcjpeflinaaW.PrintLast Go.Proofs.YtdhdfcjpeflinaaW.PrintMore
end Go.Proofs.YtdhdfcjpeflinaaN
set_option linter.unusedVariables false
set_option linter.unusedSimpArgs false
set_option maxRecDepth 100000
namespace Go.Proofs.YtdhdfcjpeflinaaV
open Go Go.RowKit Go.Proofs.Ytdhdfcjpeflinaa Go.Proofs.YtdhdfcjpeflinaaE Go.Proofs.YtdhdfcjpeflinaaN Go.Proofs.Ytdhdfcjpeflinaa.All Go.Proofs.YtdhdfcjpeflinaaW.PrintWords Go.Proofs.YtdhdfcjpeflinaaW.PrintLast Go.Proofs.YtdhdfcjpeflinaaW.PrintMore
theorem sz_add {x y : Int} {n : Nat} (hx : (ab x).size ≤ n) (hy : (ab y).size ≤ n) : (ab (x + y)).size ≤ n + 1 := by
 unfold ab at *
 rw [nat_size_le] at *
 have := Int.natAbs_add_le x y
 rw [Nat.pow_succ]
 omega
theorem sz_neg {x : Int} : (ab (-x)).size = (ab x).size := by unfold ab; rw [Int.natAbs_neg]
theorem sz_mul {x y : Int} {m n : Nat} (hx : (ab x).size ≤ m) (hy : (ab y).size ≤ n) : (ab (x * y)).size ≤ m + n := by
 unfold ab at *
 rw [nat_size_le] at *
 rw [Int.natAbs_mul, Nat.pow_add]
 exact Nat.mul_lt_mul'' hx hy
theorem ick2_zero {s t : Bool} {a b : ByteArray} (h : ick2 s a t b = 0) : ick s a = 0 ∧ ick t b = 0 := by
 unfold ick2 at h
 by_cases h1 : ick s a = 0
 ·rw [if_pos h1] at h; exact ⟨h1, h⟩
 ·rw [if_neg h1] at h; exact absurd h h1
theorem long_sizes {a b : ByteArray} {n : Nat} (h : ¬ (decide ((a.size : Int) > (n : Int)) || decide ((b.size : Int) > (n : Int))) = true) : a.size ≤ n ∧ b.size ≤ n := by
 rw [Bool.or_eq_true, decide_eq_true_eq, decide_eq_true_eq, not_or] at h
 omega
theorem cmpI_add (x y z : Int) : cmpI (x + z) (y + z) = cmpI x y := by
 unfold cmpI
 by_cases h1 : x < y
 ·rw [if_pos h1, if_pos (by omega)]
 ·rw [if_neg h1, if_neg (by omega)]
  by_cases h2 : x = y
  ·rw [if_pos h2, if_pos (by omega)]
  ·rw [if_neg h2, if_neg (by omega)]
end Go.Proofs.YtdhdfcjpeflinaaV
set_option linter.unusedVariables false
set_option linter.unusedSimpArgs false
set_option maxRecDepth 100000
namespace Go.Proofs.YtdhdfcjpeflinaaV
open Go Go.RowKit Go.Proofs.Ytdhdfcjpeflinaa Go.Proofs.YtdhdfcjpeflinaaE Go.Proofs.YtdhdfcjpeflinaaN Go.Proofs.Ytdhdfcjpeflinaa.All Go.Proofs.YtdhdfcjpeflinaaW.PrintWords Go.Proofs.YtdhdfcjpeflinaaW.PrintLast Go.Proofs.YtdhdfcjpeflinaaW.PrintMore
theorem law8_ev (a0 : Bool) (a1 : ByteArray) (b0 : Bool) (b1 : ByteArray) (c0 : Bool) (c1 : ByteArray) : Ev (fun k => FX8 k (a0, a1) (b0, b1) (c0, c1)) true := by
 obtain ⟨K0, aw⟩ := awake_ev
 have hl := ilong_eq a0 a1 b0 b1 60
 by_cases hlong : (decide ((a1.size : Int) > 60) || decide ((b1.size : Int) > 60)) = true
 ·rw [hlong] at hl
  refine ⟨K0, fun k hk => ?_⟩
  replace aw := aw k (by omega)
  dsimp only at *
  show FX8 _ _ _ _ = _
  unfold FX8 B8
  simp only [FX12, FX13, FX17, FX18, FX25, FX26, FX31, FX32, FX40, cnd_eq_if, bind_some_, toList_mk, List.toList_toArray, beq_iff_eq, if_true, if_false, ne_eq, not_true_eq_false, not_false_eq_true, Bool.not_true, Bool.not_false, Bool.false_eq_true, Int.reduceEq, reduceCtorEq, Bool.not_eq_true', bfalse, ite_not, eq_self, Bool.and_eq_true, Bool.or_eq_true, ite_and_, ite_or_, and_self, decide_true, decide_false, Bool.true_and, Bool.and_true, beq_self_eq_true, decide_eq_true_eq, gt_iff_lt, ge_iff_le, Int.neg_eq_zero, aw, hl]
 ·rw [Bool.eq_false_iff.2 hlong] at hl
  have hlz := long_sizes (n := 60) hlong
  by_cases hcs : (c1.size : Int) > 60
  ·refine ⟨K0, fun k hk => ?_⟩
   replace aw := aw k (by omega)
   dsimp only at *
   show FX8 _ _ _ _ = _
   unfold FX8 B8
   simp only [FX12, FX13, FX17, FX18, FX25, FX26, FX31, FX32, FX40, cnd_eq_if, bind_some_, toList_mk, List.toList_toArray, beq_iff_eq, if_true, if_false, ne_eq, not_true_eq_false, not_false_eq_true, Bool.not_true, Bool.not_false, Bool.false_eq_true, Int.reduceEq, reduceCtorEq, Bool.not_eq_true', bfalse, ite_not, eq_self, Bool.and_eq_true, Bool.or_eq_true, ite_and_, ite_or_, and_self, decide_true, decide_false, Bool.true_and, Bool.and_true, beq_self_eq_true, decide_eq_true_eq, gt_iff_lt, ge_iff_le, Int.neg_eq_zero, aw, hl, hcs]
  ·have hx := expected2_eq a0 a1 b0 b1
   by_cases he : ick2 a0 a1 b0 b1 = 0
   ·obtain ⟨ha, hb⟩ := ick2_zero he
    rw [he] at hx
    have hc := rCheck_eq c0 c1
    by_cases hz : ick c0 c1 = 0
    ·rw [hz] at hc
     obtain ⟨x, rfl, rfl, sx⟩ := ick_zero ha
     obtain ⟨y, rfl, rfl, sy⟩ := ick_zero hb
     obtain ⟨z, rfl, rfl, sz⟩ := ick_zero hz
     have sx : (ab x).size ≤ 60 := hlz.1
     have sy : (ab y).size ≤ 60 := hlz.2
     have sz : (ab z).size ≤ 60 := by omega
     have s1 := sz_add sx sy
     have s2 := sz_mul s1 sz
     have s3 := sz_mul sx sz
     have s4 := sz_mul sz sy
     have s5 := sz_mul s3 sy
     have s6 := sz_add sx sz
     have s7 := sz_add sy sz
     have s8 : (ab (-x)).size ≤ 60 := by rw [sz_neg]; exact sx
     have e1 := iAdd_ev (x := x) (y := y) (by omega) (by omega)
     rw [ibnd_ok (by omega)] at e1
     have e2 := iAdd_ev (x := y) (y := x) (by omega) (by omega)
     rw [Int.add_comm y x, ibnd_ok (by omega)] at e2
     have e3 := iMul_ev (x := x + y) (y := z) (by omega) (by omega)
     rw [ibnd_ok (by omega)] at e3
     have e4 := iMul_ev (x := x) (y := z) (by omega) (by omega)
     rw [ibnd_ok (by omega)] at e4
     have e5 := iMul_ev (x := z) (y := y) (by omega) (by omega)
     rw [ibnd_ok (by omega)] at e5
     have e6 := iAdd_ev (x := x * z) (y := z * y) (by omega) (by omega)
     rw [show x * z + z * y = (x + y) * z by rw [Int.add_mul, Int.mul_comm z y], ibnd_ok (by omega)] at e6
     have e7 := iSub_ev (x := x + y) (y := y) (by omega) (by omega)
     rw [Int.add_sub_cancel, ibnd_ok (by omega)] at e7
     have e8 := iMul_ev (x := x * z) (y := y) (by omega) (by omega)
     rw [ibnd_ok (by omega)] at e8
     have e9 := iMul_ev (x := x) (y := z * y) (by omega) (by omega)
     rw [← Int.mul_assoc, ibnd_ok (by omega)] at e9
     have e10 := iAdd_ev (x := x) (y := z) (by omega) (by omega)
     rw [ibnd_ok (by omega)] at e10
     have e11 := iAdd_ev (x := y) (y := z) (by omega) (by omega)
     rw [ibnd_ok (by omega)] at e11
     have e12 := iCompare_ev (x := x) (y := y) (by omega) (by omega)
     have e13 := iCompare_ev (x := x + z) (y := y + z) (by omega) (by omega)
     rw [cmpI_add] at e13
     have e14 := iNeg_ev (x := x) (by omega)
     rw [ibnd_ok (by omega)] at e14
     have e15 := iAdd_ev (x := x) (y := -x) (by omega) (by omega)
     rw [Int.add_right_neg, ibnd_ok (by decide +kernel)] at e15
     have z1 : ng 0 = false := by decide
     have z2 : (ab 0).toList = ([] : List UInt8) := ab_empty.2 rfl
     obtain ⟨K_e1, e1⟩ := e1
     obtain ⟨K_e2, e2⟩ := e2
     obtain ⟨K_e3, e3⟩ := e3
     obtain ⟨K_e4, e4⟩ := e4
     obtain ⟨K_e5, e5⟩ := e5
     obtain ⟨K_e6, e6⟩ := e6
     obtain ⟨K_e7, e7⟩ := e7
     obtain ⟨K_e8, e8⟩ := e8
     obtain ⟨K_e9, e9⟩ := e9
     obtain ⟨K_e10, e10⟩ := e10
     obtain ⟨K_e11, e11⟩ := e11
     obtain ⟨K_e12, e12⟩ := e12
     obtain ⟨K_e13, e13⟩ := e13
     obtain ⟨K_e14, e14⟩ := e14
     obtain ⟨K_e15, e15⟩ := e15
     refine ⟨K0 + K_e1 + K_e2 + K_e3 + K_e4 + K_e5 + K_e6 + K_e7 + K_e8 + K_e9 + K_e10 + K_e11 + K_e12 + K_e13 + K_e14 + K_e15, fun k hk => ?_⟩
     replace aw := aw k (by omega)
     replace e1 := e1 k (by omega)
     replace e2 := e2 k (by omega)
     replace e3 := e3 k (by omega)
     replace e4 := e4 k (by omega)
     replace e5 := e5 k (by omega)
     replace e6 := e6 k (by omega)
     replace e7 := e7 k (by omega)
     replace e8 := e8 k (by omega)
     replace e9 := e9 k (by omega)
     replace e10 := e10 k (by omega)
     replace e11 := e11 k (by omega)
     replace e12 := e12 k (by omega)
     replace e13 := e13 k (by omega)
     replace e14 := e14 k (by omega)
     replace e15 := e15 k (by omega)
     dsimp only at *
     show FX8 _ _ _ _ = _
     unfold FX8 B8
     simp only [FX12, FX13, FX17, FX18, FX25, FX26, FX31, FX32, FX40, cnd_eq_if, bind_some_, toList_mk, List.toList_toArray, beq_iff_eq, if_true, if_false, ne_eq, not_true_eq_false, not_false_eq_true, Bool.not_true, Bool.not_false, Bool.false_eq_true, Int.reduceEq, reduceCtorEq, Bool.not_eq_true', bfalse, ite_not, eq_self, Bool.and_eq_true, Bool.or_eq_true, ite_and_, ite_or_, and_self, decide_true, decide_false, Bool.true_and, Bool.and_true, beq_self_eq_true, decide_eq_true_eq, gt_iff_lt, ge_iff_le, Int.neg_eq_zero, aw, e1, e2, e3, e4, e5, e6, e7, e8, e9, e10, e11, e12, e13, e14, e15, hl, hx, hc, hcs, z1, z2]
    ·refine ⟨K0, fun k hk => ?_⟩
     replace aw := aw k (by omega)
     dsimp only at *
     show FX8 _ _ _ _ = _
     unfold FX8 B8
     simp only [FX12, FX13, FX17, FX18, FX25, FX26, FX31, FX32, FX40, cnd_eq_if, bind_some_, toList_mk, List.toList_toArray, beq_iff_eq, if_true, if_false, ne_eq, not_true_eq_false, not_false_eq_true, Bool.not_true, Bool.not_false, Bool.false_eq_true, Int.reduceEq, reduceCtorEq, Bool.not_eq_true', bfalse, ite_not, eq_self, Bool.and_eq_true, Bool.or_eq_true, ite_and_, ite_or_, and_self, decide_true, decide_false, Bool.true_and, Bool.and_true, beq_self_eq_true, decide_eq_true_eq, gt_iff_lt, ge_iff_le, Int.neg_eq_zero, aw, hl, hx, hc, hcs, hz]
   ·refine ⟨K0, fun k hk => ?_⟩
    replace aw := aw k (by omega)
    dsimp only at *
    show FX8 _ _ _ _ = _
    unfold FX8 B8
    simp only [FX12, FX13, FX17, FX18, FX25, FX26, FX31, FX32, FX40, cnd_eq_if, bind_some_, toList_mk, List.toList_toArray, beq_iff_eq, if_true, if_false, ne_eq, not_true_eq_false, not_false_eq_true, Bool.not_true, Bool.not_false, Bool.false_eq_true, Int.reduceEq, reduceCtorEq, Bool.not_eq_true', bfalse, ite_not, eq_self, Bool.and_eq_true, Bool.or_eq_true, ite_and_, ite_or_, and_self, decide_true, decide_false, Bool.true_and, Bool.and_true, beq_self_eq_true, decide_eq_true_eq, gt_iff_lt, ge_iff_le, Int.neg_eq_zero, aw, hl, hx, hcs, he]
end Go.Proofs.YtdhdfcjpeflinaaV
set_option linter.unusedVariables false
namespace Go.Proofs.Ytdhdfcjpeflinaa.Pure
open Go Go.RowKit Go.Proofs.Ytdhdfcjpeflinaa.All Go.Proofs.YtdhdfcjpeflinaaN Go.Proofs.YtdhdfcjpeflinaaW.PrintWords Go.Proofs.YtdhdfcjpeflinaaW.PrintLast
theorem IntegerRing (a0 : Bool) (a1 : ByteArray) (b0 : Bool) (b1 : ByteArray) (c0 : Bool) (c1 : ByteArray) (w : World) :
    Calls Try.prog 8 #[.agg #[.bool a0, .string a1], .agg #[.bool b0, .string b1], .agg #[.bool c0, .string c1]] w fun e w' => e = .returned (.bool true) ∧ Below w.heap.size w w' :=
  Go.Proofs.YtdhdfcjpeflinaaV.calls8 a0 a1 b0 b1 c0 c1 (Go.Proofs.YtdhdfcjpeflinaaV.law8_ev a0 a1 b0 b1 c0 c1).rounds w
end Go.Proofs.Ytdhdfcjpeflinaa.Pure
