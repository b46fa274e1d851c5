/- Part of the proof of the statement RationalMakes: lemmas on the model's steps, Lean functions that say what the program's functions compute, and proofs that the calls do just that. No hypothesis is added. -/
import Derived.Test.YtjllholdppjllaaKRationalMakes3
set_option linter.all false
set_option maxRecDepth 100000
namespace Go.Proofs.YtjllholdppjllaaV
open Go Go.RowKit Ytjllholdppjllaa YtjllholdppjllaaE YtjllholdppjllaaW.PrintWords YtjllholdppjllaaW.PrintLast YtjllholdppjllaaW.PrintMore
theorem b69 (k:Nat) (x0:ByteArray) (x1:ByteArray):LeO (FX69 k x0 x1) (B69 (GX69l0 k) (FX73 k) x0 x1):=by
 show LeO (All.exact_NatAdd.f k x0 x1) _
 unfold All.exact_NatAdd.f
 unfold B69
 (try simp only [GX69l0,FX73,FX75,FX83,All.integer_zero.f,All.exact_stepAt.f,All.S24.f0,All.S24.f1,All.rd_T24,All.z24])
 (try simp only [List.take_append_drop,List.drop_length,List.append_nil,Int.zero_sub,Int.toNat_natCast,Int.reduceToNat,Int.zero_add,List.take_zero,List.nil_append,List.append_assoc,List.length_set,ite_bind_,List.take_left,BAe,bne,decide_int_eq,decide_not,wrap_mod,if_true,if_false,Bool.false_eq_true,bind_assoc_,slice_def,List.drop_zero,List.take_length,wrap_u8,bind_some_,cnd_eq_if,rdOf,ite_not,Bool.and_eq_true,Bool.or_eq_true,Bool.not_eq_true',bfalse,Bool.not_eq_false',beq_iff_eq,decide_eq_true_eq,isEmpty_eq,ite_and_,ite_or_,ne_eq,toList_mk,List.toList_toArray])
 repeat' first
 | (with_reducible refine LeO.trans ((All.exact_NatAdd.mono_l k).1 _ _) ?_;rw [All.exact_NatAdd.j0];(try simp only [if_true,if_false,decide_eq_true_eq,Bool.false_eq_true,decide_not,ite_not,bne,decide_int_eq,beq_iff_eq,Bool.not_eq_true',bfalse,toList_mk,List.toList_toArray,ite_and_,ite_or_,Bool.and_eq_true,Bool.or_eq_true,isEmpty_eq,wrap_mod,wrap_u8,All.integer_zero.f,bind_some_,Int.toNat_natCast,Int.reduceToNat,Int.zero_sub,BAe]))
 | (with_reducible exact LeO.none _)
 | (with_reducible exact LeO.refl _)
 | (with_reducible refine LeO.posR (by with_reducible assumption) ?_)
 | (with_reducible refine LeO.negR (by with_reducible assumption) ?_)
 | (with_reducible refine LeO.bindR (by with_reducible assumption) ?_)
 | (with_reducible refine LeO.posL (by with_reducible assumption) ?_)
 | (with_reducible refine LeO.negL (by with_reducible assumption) ?_)
 | (with_reducible refine LeO.iteL (fun _=>?_) (fun _=>?_))
 | (with_reducible refine LeO.bindK (by with_reducible assumption) ?_)
 | (with_reducible refine LeO.bindL (fun _ _=>?_))
 | (refine LeO.posR (by first|decide|exact Int.le_refl _|omega|assumption) ?_)
 | (refine LeO.negR (by first|decide|omega) ?_)
theorem ok69 (k:Nat):FeOk Try.prog (fe69 (FX69 k)):=
 fe_ok EOK HM (es:=fun k=>fes69 (FX73 k) (FX75 k) (FX83 k)) (fun k=>fc ⟨ok73 k,fc ⟨ok75 k,fc ⟨ok83 k,fz⟩⟩⟩) (N:=60) (an:=an69) (c:=cd69) (rms:=rm69) (ask:=ask69) (rsk:=rsk69) (enc:=enc69) (dec:=dec69) (tbl:=[p69.getD 0 ⟨0,[], .skip⟩]) (fun s=>rfl) Try.func69 (by kernel_rfl) (by kernel_rfl) (by kernel_rfl) (fun k=>les69 (GX69l0 k))
  (fc ⟨fun s=>rfl,fz⟩) (fun k s0=> .cons (by kernel_rfl) (by kernel_rfl) (fun s r h=>(e69l0 (GX69l0 k) (FX73 k) (FX75 k) (FX83 k) s0 s).trans (b69l0 k s.1.1 s.1.2.1 s.1.2.2.1 s.2.1 s.2.2.1 s.2.2.2.1 r h)) (.nil))
  (F:=fun k s=>FX69 k s.1.1 s.1.2.1) (fun k s r h=>(e69 (GX69l0 k) (FX73 k) (FX75 k) (FX83 k) s).trans (b69 k s.1.1 s.1.2.1 r h)) k
theorem b77 (k:Nat) (x0:ByteArray) (x1:ByteArray):LeO (FX77 k x0 x1) (B77 x0 x1):=by
 show LeO (All.exact_NatCmp.f k x0 x1) _
 unfold All.exact_NatCmp.f
 unfold B77
 (try simp only [All.integer_zero.f,All.exact_stepAt.f,All.S24.f0,All.S24.f1,All.rd_T24,All.z24])
 (try simp only [List.take_append_drop,List.drop_length,List.append_nil,Int.zero_sub,Int.toNat_natCast,Int.reduceToNat,Int.zero_add,List.take_zero,List.nil_append,List.append_assoc,List.length_set,ite_bind_,List.take_left,BAe,bne,decide_int_eq,decide_not,wrap_mod,if_true,if_false,Bool.false_eq_true,bind_assoc_,slice_def,List.drop_zero,List.take_length,wrap_u8,bind_some_,cnd_eq_if,rdOf,ite_not,Bool.and_eq_true,Bool.or_eq_true,Bool.not_eq_true',bfalse,Bool.not_eq_false',beq_iff_eq,decide_eq_true_eq,isEmpty_eq,ite_and_,ite_or_,ne_eq,toList_mk,List.toList_toArray])
 repeat' first
 | (with_reducible refine LeO.trans ((All.exact_NatCmp.mono_l k) _ _ _) ?_;rw [All.exact_NatCmp.j0];(try simp only [if_true,if_false,decide_eq_true_eq,Bool.false_eq_true,decide_not,ite_not,bne,decide_int_eq,beq_iff_eq,Bool.not_eq_true',bfalse,toList_mk,List.toList_toArray,ite_and_,ite_or_,Bool.and_eq_true,Bool.or_eq_true,isEmpty_eq,wrap_mod,wrap_u8,All.integer_zero.f,bind_some_,Int.toNat_natCast,Int.reduceToNat,Int.zero_sub,BAe]))
 | (with_reducible exact LeO.none _)
 | (with_reducible exact LeO.refl _)
 | (with_reducible refine LeO.posR (by with_reducible assumption) ?_)
 | (with_reducible refine LeO.negR (by with_reducible assumption) ?_)
 | (with_reducible refine LeO.bindR (by with_reducible assumption) ?_)
 | (with_reducible refine LeO.posL (by with_reducible assumption) ?_)
 | (with_reducible refine LeO.negL (by with_reducible assumption) ?_)
 | (with_reducible refine LeO.iteL (fun _=>?_) (fun _=>?_))
 | (with_reducible refine LeO.bindK (by with_reducible assumption) ?_)
 | (with_reducible refine LeO.bindL (fun _ _=>?_))
 | (refine LeO.posR (by first|decide|exact Int.le_refl _|omega|assumption) ?_)
 | (refine LeO.negR (by first|decide|omega) ?_)
theorem ok77 (k:Nat):FeOk Try.prog (fe77 (FX77 k)):=
 fe_ok EOK HM (es:=fun k=>fes77) (fun k=>fz) (N:=27) (an:=an77) (c:=cd77) (rms:=rm77) (ask:=ask77) (rsk:=rsk77) (enc:=enc77) (dec:=dec77) (tbl:=[]) (fun s=>rfl) Try.func77 (by kernel_rfl) (by kernel_rfl) (by kernel_rfl) (fun k=>les77)
  (fz) (fun k s0=> .nil)
  (F:=fun k s=>FX77 k s.1.1 s.1.2.1) (fun k s r h=>(e77 s).trans (b77 k s.1.1 s.1.2.1 r h)) k
noncomputable abbrev GX78l0 (k:Nat) (x7:Int) (x15:Int) (x16:Int) (x5:(List Int)) (x6:(List Int)):Option R78:=All.exact_NatSub.l0 k x5 x6 x7 x15 x16
theorem b78l0 (k:Nat) (x7:Int) (x15:Int) (x16:Int) (x5:(List Int)) (x6:(List Int)):LeO (All.exact_NatSub.l0 (k+1) x5 x6 x7 x15 x16) (B78l0 (GX78l0 k) (FX75 k) (FX90 k) x7 x15 x16 x5 x6):=by rw [All.exact_NatSub.l0];unfold B78l0;(try simp only [GX78l0,FX73,FX75,FX90,All.integer_zero.f,All.exact_stepAt.f,All.S24.f0,All.S24.f1,All.rd_T24,All.z24]);exact BR
theorem b78 (k:Nat) (x0:ByteArray) (x1:ByteArray):LeO (FX78 k x0 x1) (B78 (GX78l0 k) (FX73 k) x0 x1):=by
 show LeO (All.exact_NatSub.f k x0 x1) _
 unfold All.exact_NatSub.f;unfold B78;(try simp only [GX78l0,FX73,FX75,FX90,All.integer_zero.f,All.exact_stepAt.f,All.S24.f0,All.S24.f1,All.rd_T24,All.z24]);exact BR
theorem ok78 (k:Nat):FeOk Try.prog (fe78 (FX78 k)):=
 fe_ok EOK HM (es:=fun k=>fes78 (FX73 k) (FX75 k) (FX90 k)) (fun k=>fc ⟨ok73 k,fc ⟨ok75 k,fc ⟨ok90 k,fz⟩⟩⟩) (N:=43) (an:=an78) (c:=cd78) (rms:=rm78) (ask:=ask78) (rsk:=rsk78) (enc:=enc78) (dec:=dec78) (tbl:=[p78.getD 0 ⟨0,[], .skip⟩]) (fun s=>rfl) Try.func78 (by kernel_rfl) (by kernel_rfl) (by kernel_rfl) (fun k=>les78 (GX78l0 k))
  (fc ⟨fun s=>rfl,fz⟩) (fun k s0=> .cons (by kernel_rfl) (by kernel_rfl) (fun s r h=>(e78l0 (GX78l0 k) (FX73 k) (FX75 k) (FX90 k) s0 s).trans (b78l0 k s.1.1 s.1.2.1 s.1.2.2.1 s.2.1 s.2.2.1 r h)) (.nil))
  (F:=fun k s=>FX78 k s.1.1 s.1.2.1) (fun k s r h=>(e78 (GX78l0 k) (FX73 k) (FX75 k) (FX90 k) s).trans (b78 k s.1.1 s.1.2.1 r h)) k
theorem b60 (k:Nat) (x0:TI) (x1:TI):LeO (FX60 k x0 x1) (B60 (FX54 k) (FX69 k) (FX77 k) (FX78 k) x0 x1):=by
 show LeO (All.exact_IntAdd.f k x0.1 x0.2 x1.1 x1.2) _
 unfold All.exact_IntAdd.f;unfold B60;(try simp only [FX54,FX69,FX77,FX78,All.integer_zero.f,All.exact_stepAt.f,All.S24.f0,All.S24.f1,All.rd_T24,All.z24]);exact BR
theorem ok60 (k:Nat):FeOk Try.prog (fe60 (FX60 k)):=
 fe_ok EOK HM (es:=fun k=>fes60 (FX54 k) (FX69 k) (FX77 k) (FX78 k)) (fun k=>fc ⟨ok54 k,fc ⟨ok69 k,fc ⟨ok77 k,fc ⟨ok78 k,fz⟩⟩⟩⟩) (N:=42) (an:=an60) (c:=cd60) (rms:=rm60) (ask:=ask60) (rsk:=rsk60) (enc:=enc60) (dec:=dec60) (tbl:=[]) (fun s=>rfl) Try.func60 (by kernel_rfl) (by kernel_rfl) (by kernel_rfl) (fun k=>les60)
  (fz) (fun k s0=> .nil)
  (F:=fun k s=>FX60 k s.1.1 s.1.2.1) (fun k s r h=>(e60 (FX54 k) (FX69 k) (FX77 k) (FX78 k) s).trans (b60 k s.1.1 s.1.2.1 r h)) k
noncomputable abbrev GX79l0 (k:Nat) (x1:(List Int)) (x20:(List Int)) (x21:Int) (x22:Int) (x5:(List Int)):Option R79:=All.exact_mulWords.l0 k x1 x5 x20 x21 x22
noncomputable abbrev GX79l1 (k:Nat) (x1:(List Int)) (x6:Int) (x7:Int) (x8:Int) (x20:(List Int)) (x21:Int) (x22:Int) (x27:(List Int)) (x28:Int) (x29:Int) (x5:(List Int)):Option R79:=All.exact_mulWords.l1 k x1 x5 x6 x7 x8 x20 x21 x22 x27 x28 x29
theorem b79l0 (k:Nat) (x1:(List Int)) (x20:(List Int)) (x21:Int) (x22:Int) (x5:(List Int)):LeO (All.exact_mulWords.l0 (k+1) x1 x5 x20 x21 x22) (B79l0 (GX79l1 k) (FX84 k) x1 x20 x21 x22 x5):=by rw [All.exact_mulWords.l0];unfold B79l0;(try simp only [GX79l0,GX79l1,FX83,FX84,FX91,All.integer_zero.f,All.exact_stepAt.f,All.S24.f0,All.S24.f1,All.rd_T24,All.z24]);exact BR
theorem b79l1 (k:Nat) (x1:(List Int)) (x6:Int) (x7:Int) (x8:Int) (x20:(List Int)) (x21:Int) (x22:Int) (x27:(List Int)) (x28:Int) (x29:Int) (x5:(List Int)):LeO (All.exact_mulWords.l1 (k+1) x1 x5 x6 x7 x8 x20 x21 x22 x27 x28 x29) (B79l1 (GX79l0 k) (GX79l1 k) (FX83 k) (FX91 k) x1 x6 x7 x8 x20 x21 x22 x27 x28 x29 x5):=by rw [All.exact_mulWords.l1];unfold B79l1;(try simp only [GX79l0,GX79l1,FX83,FX84,FX91,All.integer_zero.f,All.exact_stepAt.f,All.S24.f0,All.S24.f1,All.rd_T24,All.z24]);exact BR
theorem b79 (k:Nat) (x0:(List Int)) (x1:(List Int)):LeO (FX79 k x0 x1) (B79 (GX79l0 k) x0 x1):=by
 show LeO (All.exact_mulWords.f k x0 x1) _
 unfold All.exact_mulWords.f;unfold B79;(try simp only [GX79l0,GX79l1,FX83,FX84,FX91,All.integer_zero.f,All.exact_stepAt.f,All.S24.f0,All.S24.f1,All.rd_T24,All.z24]);exact BR
theorem ok79 (k:Nat):FeOk Try.prog (fe79 (FX79 k)):=
 fe_ok EOK HM (es:=fun k=>fes79 (FX83 k) (FX84 k) (FX91 k)) (fun k=>fc ⟨ok83 k,fc ⟨ok84 k,fc ⟨ok91 k,fz⟩⟩⟩) (N:=80) (an:=an79) (c:=cd79) (rms:=rm79) (ask:=ask79) (rsk:=rsk79) (enc:=enc79) (dec:=dec79) (tbl:=[p79.getD 0 ⟨0,[], .skip⟩,p79.getD 1 ⟨0,[], .skip⟩]) (fun s=>rfl) Try.func79 (by kernel_rfl) (by kernel_rfl) (by kernel_rfl) (fun k=>les79 (GX79l0 k) (GX79l1 k))
  (fc ⟨fun s=>rfl,fc ⟨fun s=>rfl,fz⟩⟩) (fun k s0=> .cons (by kernel_rfl) (by kernel_rfl) (fun s r h=>(e79l0 (GX79l0 k) (GX79l1 k) (FX83 k) (FX84 k) (FX91 k) s0 s).trans (b79l0 k s.1.1 s.1.2.1 s.1.2.2.1 s.1.2.2.2.1 s.2.1 r h)) (.cons (by kernel_rfl) (by kernel_rfl) (fun s r h=>(e79l1 (GX79l0 k) (GX79l1 k) (FX83 k) (FX84 k) (FX91 k) s0 s).trans (b79l1 k s.1.1 s.1.2.1 s.1.2.2.1 s.1.2.2.2.1 s.1.2.2.2.2.1 s.1.2.2.2.2.2.1 s.1.2.2.2.2.2.2.1 s.1.2.2.2.2.2.2.2.1 s.1.2.2.2.2.2.2.2.2.1 s.1.2.2.2.2.2.2.2.2.2.1 s.2.1 r h)) (.nil)))
  (F:=fun k s=>FX79 k s.1.1 s.1.2.1) (fun k s r h=>(e79 (GX79l0 k) (GX79l1 k) (FX83 k) (FX84 k) (FX91 k) s).trans (b79 k s.1.1 s.1.2.1 r h)) k
theorem b61 (k:Nat) (x0:ByteArray) (x1:ByteArray):LeO (FX61 k x0 x1) (B61 (FX73 k) (FX75 k) (FX79 k) x0 x1):=by
 show LeO (All.exact_NatMul.f k x0 x1) _
 unfold All.exact_NatMul.f;unfold B61;(try simp only [FX73,FX75,FX79,All.integer_zero.f,All.exact_stepAt.f,All.S24.f0,All.S24.f1,All.rd_T24,All.z24]);exact BR
theorem ok61 (k:Nat):FeOk Try.prog (fe61 (FX61 k)):=
 fe_ok EOK HM (es:=fun k=>fes61 (FX73 k) (FX75 k) (FX79 k)) (fun k=>fc ⟨ok73 k,fc ⟨ok75 k,fc ⟨ok79 k,fz⟩⟩⟩) (N:=11) (an:=an61) (c:=cd61) (rms:=rm61) (ask:=ask61) (rsk:=rsk61) (enc:=enc61) (dec:=dec61) (tbl:=[]) (fun s=>rfl) Try.func61 (by kernel_rfl) (by kernel_rfl) (by kernel_rfl) (fun k=>les61)
  (fz) (fun k s0=> .nil)
  (F:=fun k s=>FX61 k s.1.1 s.1.2.1) (fun k s r h=>(e61 (FX73 k) (FX75 k) (FX79 k) s).trans (b61 k s.1.1 s.1.2.1 r h)) k
theorem b34 (k:Nat) (x0:TQ) (x1:TQ):LeO (FX34 k x0 x1) (B34 (FX23 k) (FX24 k) (FX54 k) (FX60 k) (FX61 k) x0 x1):=LeO.refl _
theorem ok34 (k:Nat):FeOk Try.prog (fe34 (FX34 k)):=
 fe_ok EOK HM (es:=fun k=>fes34 (FX23 k) (FX24 k) (FX54 k) (FX60 k) (FX61 k)) (fun k=>fc ⟨ok23 k,fc ⟨ok24 k,fc ⟨ok54 k,fc ⟨ok60 k,fc ⟨ok61 k,fz⟩⟩⟩⟩⟩) (N:=58) (an:=an34) (c:=cd34) (rms:=rm34) (ask:=ask34) (rsk:=rsk34) (enc:=enc34) (dec:=dec34) (tbl:=[]) (fun s=>rfl) Try.func34 (by kernel_rfl) (by kernel_rfl) (by kernel_rfl) (fun k=>les34)
  (fz) (fun k s0=> .nil)
  (F:=fun k s=>FX34 k s.1.1 s.1.2.1) (fun k s r h=>(e34 (FX23 k) (FX24 k) (FX54 k) (FX60 k) (FX61 k) s).trans (b34 k s.1.1 s.1.2.1 r h)) k
theorem b33 (k:Nat) (x0:(List TQ)):LeO (FX33 k x0) (B33 (FX34 k) x0):=LeO.refl _
theorem ok33 (k:Nat):FeOk Try.prog (fe33 (FX33 k)):=
 fe_ok EOK HM (es:=fun k=>fes33 (FX34 k)) (fun k=>fc ⟨ok34 k,fz⟩) (N:=11) (an:=an33) (c:=cd33) (rms:=rm33) (ask:=ask33) (rsk:=rsk33) (enc:=enc33) (dec:=dec33) (tbl:=[]) (fun s=>rfl) Try.func33 (by kernel_rfl) (by kernel_rfl) (by kernel_rfl) (fun k=>les33)
  (fz) (fun k s0=> .nil)
  (F:=fun k s=>FX33 k s.1.1) (fun k s r h=>(e33 (FX34 k) s).trans (b33 k s.1.1 r h)) k
theorem b49 (k:Nat) (x0:ByteArray):LeO (FX49 k x0) (B49 x0):=by
 show LeO (All.natural_Check.f k x0) _
 unfold All.natural_Check.f
 unfold B49
 (try simp only [All.integer_zero.f,All.exact_stepAt.f,All.S24.f0,All.S24.f1,All.rd_T24,All.z24])
 (try simp only [List.take_append_drop,List.drop_length,List.append_nil,Int.zero_sub,Int.toNat_natCast,Int.reduceToNat,Int.zero_add,List.take_zero,List.nil_append,List.append_assoc,List.length_set,ite_bind_,List.take_left,BAe,bne,decide_int_eq,decide_not,wrap_mod,if_true,if_false,Bool.false_eq_true,bind_assoc_,slice_def,List.drop_zero,List.take_length,wrap_u8,bind_some_,cnd_eq_if,rdOf,ite_not,Bool.and_eq_true,Bool.or_eq_true,Bool.not_eq_true',bfalse,Bool.not_eq_false',beq_iff_eq,decide_eq_true_eq,isEmpty_eq,ite_and_,ite_or_,ne_eq,toList_mk,List.toList_toArray])
 repeat' first
 | (with_reducible refine LeO.trans ((All.natural_Check.mono_l k) _ _) ?_;rw [All.natural_Check.j0];(try simp only [if_true,if_false,decide_eq_true_eq,Bool.false_eq_true,decide_not,ite_not,bne,decide_int_eq,beq_iff_eq,Bool.not_eq_true',bfalse,toList_mk,List.toList_toArray,ite_and_,ite_or_,Bool.and_eq_true,Bool.or_eq_true,isEmpty_eq,wrap_mod,wrap_u8,All.integer_zero.f,bind_some_,Int.toNat_natCast,Int.reduceToNat,Int.zero_sub,BAe]))
 | (with_reducible exact LeO.none _)
 | (with_reducible exact LeO.refl _)
 | (with_reducible refine LeO.posR (by with_reducible assumption) ?_)
 | (with_reducible refine LeO.negR (by with_reducible assumption) ?_)
 | (with_reducible refine LeO.bindR (by with_reducible assumption) ?_)
 | (with_reducible refine LeO.posL (by with_reducible assumption) ?_)
 | (with_reducible refine LeO.negL (by with_reducible assumption) ?_)
 | (with_reducible refine LeO.iteL (fun _=>?_) (fun _=>?_))
 | (with_reducible refine LeO.bindK (by with_reducible assumption) ?_)
 | (with_reducible refine LeO.bindL (fun _ _=>?_))
 | (refine LeO.posR (by first|decide|exact Int.le_refl _|omega|assumption) ?_)
 | (refine LeO.negR (by first|decide|omega) ?_)
theorem ok49 (k:Nat):FeOk Try.prog (fe49 (FX49 k)):=
 fe_ok EOK HM (es:=fun k=>fes49) (fun k=>fz) (N:=14) (an:=an49) (c:=cd49) (rms:=rm49) (ask:=ask49) (rsk:=rsk49) (enc:=enc49) (dec:=dec49) (tbl:=[]) (fun s=>rfl) Try.func49 (by kernel_rfl) (by kernel_rfl) (by kernel_rfl) (fun k=>les49)
  (fz) (fun k s0=> .nil)
  (F:=fun k s=>FX49 k s.1.1) (fun k s r h=>(e49 s).trans (b49 k s.1.1 r h)) k
theorem b50 (k:Nat):LeO (FX50 k) (B50):=by
 show LeO (All.integer_zero.f) _
 unfold All.integer_zero.f;unfold B50;(try simp only [All.integer_zero.f,All.exact_stepAt.f,All.S24.f0,All.S24.f1,All.rd_T24,All.z24]);exact BR
theorem ok50 (k:Nat):FeOk Try.prog (fe50 (FX50 k)):=
 fe_ok EOK HM (es:=fun k=>fes50) (fun k=>fz) (N:=2) (an:=an50) (c:=cd50) (rms:=rm50) (ask:=ask50) (rsk:=rsk50) (enc:=enc50) (dec:=dec50) (tbl:=[]) (fun s=>rfl) Try.func50 (by kernel_rfl) (by kernel_rfl) (by kernel_rfl) (fun k=>les50)
  (fz) (fun k s0=> .nil)
  (F:=fun k s=>FX50 k) (fun k s r h=>(e50 s).trans (b50 k r h)) k
theorem b21 (k:Nat) (x0:TI):LeO (FX21 k x0) (B21 (FX49 k) (FX50 k) x0):=by
 show LeO (All.integer_Check.f k x0.1 x0.2) _
 unfold All.integer_Check.f;unfold B21;(try simp only [FX49,FX50,All.integer_zero.f,All.exact_stepAt.f,All.S24.f0,All.S24.f1,All.rd_T24,All.z24]);exact BR
theorem ok21 (k:Nat):FeOk Try.prog (fe21 (FX21 k)):=
 fe_ok EOK HM (es:=fun k=>fes21 (FX49 k) (FX50 k)) (fun k=>fc ⟨ok49 k,fc ⟨ok50 k,fz⟩⟩) (N:=21) (an:=an21) (c:=cd21) (rms:=rm21) (ask:=ask21) (rsk:=rsk21) (enc:=enc21) (dec:=dec21) (tbl:=[]) (fun s=>rfl) Try.func21 (by kernel_rfl) (by kernel_rfl) (by kernel_rfl) (fun k=>les21)
  (fz) (fun k s0=> .nil)
  (F:=fun k s=>FX21 k s.1.1) (fun k s r h=>(e21 (FX49 k) (FX50 k) s).trans (b21 k s.1.1 r h)) k
theorem b35 (k:Nat) (x0:TQ):LeO (FX35 k x0) (B35 (FX21 k) (FX49 k) (FX52 k) x0):=LeO.refl _
theorem ok35 (k:Nat):FeOk Try.prog (fe35 (FX35 k)):=
 fe_ok EOK HM (es:=fun k=>fes35 (FX21 k) (FX49 k) (FX52 k)) (fun k=>fc ⟨ok21 k,fc ⟨ok49 k,fc ⟨ok52 k,fz⟩⟩⟩) (N:=44) (an:=an35) (c:=cd35) (rms:=rm35) (ask:=ask35) (rsk:=rsk35) (enc:=enc35) (dec:=dec35) (tbl:=[]) (fun s=>rfl) Try.func35 (by kernel_rfl) (by kernel_rfl) (by kernel_rfl) (fun k=>les35)
  (fz) (fun k s0=> .nil)
  (F:=fun k s=>FX35 k s.1.1) (fun k s r h=>(e35 (FX21 k) (FX49 k) (FX52 k) s).trans (b35 k s.1.1 r h)) k
theorem b32Addl0 (k:Nat) (x1:(List TQ)) (x11:(List TQ)) (x12:Int) (x13:Int) (x4:TQ):LeO (GX32Addl0 (k+1) x1 x11 x12 x13 x4) (B32Addl0 (GX32Addl0 k) (FX22 k) (FX33 k) (FX35 k) x1 x11 x12 x13 x4):=by rw [GX32Addl0];exact LeO.refl _
theorem b32Add (k:Nat) (x1:(List TQ)):LeO (FX32Add k x1) (B32Add (GX32Addl0 k) x1):=LeO.refl _
theorem ok32Add (k:Nat):FeOk Try.prog (fe32Add (FX32Add k)):=
 fe_ok EOK HM (es:=fun k=>fes32Add (FX22 k) (FX33 k) (FX35 k)) (fun k=>fc ⟨ok22 k,fc ⟨ok33 k,fc ⟨ok35 k,fz⟩⟩⟩) (N:=38) (an:=an32Add) (c:=cd32Add) (rms:=rm32Add) (ask:=ask32Add) (rsk:=rsk32Add) (enc:=enc32Add) (dec:=dec32Add) (tbl:=[p32Add.getD 0 ⟨0,[], .skip⟩]) (fun s=>rfl) Try.func32 (by kernel_rfl) (by kernel_rfl) (by kernel_rfl) (fun k=>les32Add (GX32Addl0 k))
  (fc ⟨fun s=>rfl,fz⟩) (fun k s0=> .cons (by kernel_rfl) (by kernel_rfl) (fun s r h=>(e32Addl0 (GX32Addl0 k) (FX22 k) (FX33 k) (FX35 k) s0 s).trans (b32Addl0 k s.1.1 s.1.2.1 s.1.2.2.1 s.1.2.2.2.1 s.2.1 r h)) (.nil))
  (F:=fun k s=>FX32Add k s.1.1) (fun k s r h=>(e32Add (GX32Addl0 k) (FX22 k) (FX33 k) (FX35 k) s).trans (b32Add k s.1.1 r h)) k
theorem b13 (k:Nat) (x0:TQ) (x1:TQ):LeO (FX13 k x0 x1) (B13 (FX32Add k) x0 x1):=LeO.refl _
theorem ok13 (k:Nat):FeOk Try.prog (fe13 (FX13 k)):=
 fe_ok EOK HM (es:=fun k=>fes13 (FX32Add k)) (fun k=>fc ⟨ok32Add k,fz⟩) (N:=12) (an:=an13) (c:=cd13) (rms:=rm13) (ask:=ask13) (rsk:=rsk13) (enc:=enc13) (dec:=dec13) (tbl:=[]) (fun s=>rfl) Try.func13 (by kernel_rfl) (by kernel_rfl) (by kernel_rfl) (fun k=>les13)
  (fz) (fun k s0=> .nil)
  (F:=fun k s=>FX13 k s.1.1 s.1.2.1) (fun k s r h=>(e13 (FX32Add k) s).trans (b13 k s.1.1 s.1.2.1 r h)) k
theorem b36 (k:Nat) (x0:TI):LeO (FX36 k x0) (B36 x0):=LeO.refl _
theorem ok36 (k:Nat):FeOk Try.prog (fe36 (FX36 k)):=
 fe_ok EOK HM (es:=fun k=>fes36) (fun k=>fz) (N:=10) (an:=an36) (c:=cd36) (rms:=rm36) (ask:=ask36) (rsk:=rsk36) (enc:=enc36) (dec:=dec36) (tbl:=[]) (fun s=>rfl) Try.func36 (by kernel_rfl) (by kernel_rfl) (by kernel_rfl) (fun k=>les36)
  (fz) (fun k s0=> .nil)
  (F:=fun k s=>FX36 k s.1.1) (fun k s r h=>(e36 s).trans (b36 k s.1.1 r h)) k
theorem b62 (k:Nat) (x0:TI) (x1:TI):LeO (FX62 k x0 x1) (B62 (FX53 k) (FX54 k) (FX69 k) (FX72 k) (FX78 k) x0 x1):=by
 show LeO (All.exact_IntDivMod.f k x0.1 x0.2 x1.1 x1.2) _
 unfold All.exact_IntDivMod.f
 unfold B62
 (try simp only [FX53,FX54,FX69,FX72,FX78,All.integer_zero.f,All.exact_stepAt.f,All.S24.f0,All.S24.f1,All.rd_T24,All.z24])
 (try simp only [List.take_append_drop,List.drop_length,List.append_nil,Int.zero_sub,Int.toNat_natCast,Int.reduceToNat,Int.zero_add,List.take_zero,List.nil_append,List.append_assoc,List.length_set,ite_bind_,List.take_left,BAe,bne,decide_int_eq,decide_not,wrap_mod,if_true,if_false,Bool.false_eq_true,bind_assoc_,slice_def,List.drop_zero,List.take_length,wrap_u8,bind_some_,cnd_eq_if,rdOf,ite_not,Bool.and_eq_true,Bool.or_eq_true,Bool.not_eq_true',bfalse,Bool.not_eq_false',beq_iff_eq,decide_eq_true_eq,isEmpty_eq,ite_and_,ite_or_,ne_eq,toList_mk,List.toList_toArray])
 repeat' first
 | (with_reducible refine LeO.trans ((All.exact_IntDivMod.mono_l k) _ _ _ _ _ _ _) ?_;rw [All.exact_IntDivMod.j0];(try simp only [if_true,if_false,decide_eq_true_eq,Bool.false_eq_true,decide_not,ite_not,bne,decide_int_eq,beq_iff_eq,Bool.not_eq_true',bfalse,toList_mk,List.toList_toArray,ite_and_,ite_or_,Bool.and_eq_true,Bool.or_eq_true,isEmpty_eq,wrap_mod,wrap_u8,All.integer_zero.f,bind_some_,Int.toNat_natCast,Int.reduceToNat,Int.zero_sub,BAe]))
 | (with_reducible exact LeO.none _)
 | (with_reducible exact LeO.refl _)
 | (with_reducible refine LeO.posR (by with_reducible assumption) ?_)
 | (with_reducible refine LeO.negR (by with_reducible assumption) ?_)
 | (with_reducible refine LeO.bindR (by with_reducible assumption) ?_)
 | (with_reducible refine LeO.posL (by with_reducible assumption) ?_)
 | (with_reducible refine LeO.negL (by with_reducible assumption) ?_)
 | (with_reducible refine LeO.iteL (fun _=>?_) (fun _=>?_))
 | (with_reducible refine LeO.bindK (by with_reducible assumption) ?_)
 | (with_reducible refine LeO.bindL (fun _ _=>?_))
 | (refine LeO.posR (by first|decide|exact Int.le_refl _|omega|assumption) ?_)
 | (refine LeO.negR (by first|decide|omega) ?_)
theorem ok62 (k:Nat):FeOk Try.prog (fe62 (FX62 k)):=
 fe_ok EOK HM (es:=fun k=>fes62 (FX53 k) (FX54 k) (FX69 k) (FX72 k) (FX78 k)) (fun k=>fc ⟨ok53 k,fc ⟨ok54 k,fc ⟨ok69 k,fc ⟨ok72 k,fc ⟨ok78 k,fz⟩⟩⟩⟩⟩) (N:=38) (an:=an62) (c:=cd62) (rms:=rm62) (ask:=ask62) (rsk:=rsk62) (enc:=enc62) (dec:=dec62) (tbl:=[]) (fun s=>rfl) Try.func62 (by kernel_rfl) (by kernel_rfl) (by kernel_rfl) (fun k=>les62)
  (fz) (fun k s0=> .nil)
  (F:=fun k s=>FX62 k s.1.1 s.1.2.1) (fun k s r h=>(e62 (FX53 k) (FX54 k) (FX69 k) (FX72 k) (FX78 k) s).trans (b62 k s.1.1 s.1.2.1 r h)) k
theorem b37 (k:Nat) (x0:TQ):LeO (FX37 k x0) (B37 (FX62 k) x0):=LeO.refl _
theorem ok37 (k:Nat):FeOk Try.prog (fe37 (FX37 k)):=
 fe_ok EOK HM (es:=fun k=>fes37 (FX62 k)) (fun k=>fc ⟨ok62 k,fz⟩) (N:=15) (an:=an37) (c:=cd37) (rms:=rm37) (ask:=ask37) (rsk:=rsk37) (enc:=enc37) (dec:=dec37) (tbl:=[]) (fun s=>rfl) Try.func37 (by kernel_rfl) (by kernel_rfl) (by kernel_rfl) (fun k=>les37)
  (fz) (fun k s0=> .nil)
  (F:=fun k s=>FX37 k s.1.1) (fun k s r h=>(e37 (FX62 k) s).trans (b37 k s.1.1 r h)) k
theorem b14 (k:Nat) (x0:TQ):LeO (FX14 k x0) (B14 (FX35 k) (FX36 k) (FX37 k) x0):=LeO.refl _
theorem ok14 (k:Nat):FeOk Try.prog (fe14 (FX14 k)):=
 fe_ok EOK HM (es:=fun k=>fes14 (FX35 k) (FX36 k) (FX37 k)) (fun k=>fc ⟨ok35 k,fc ⟨ok36 k,fc ⟨ok37 k,fz⟩⟩⟩) (N:=16) (an:=an14) (c:=cd14) (rms:=rm14) (ask:=ask14) (rsk:=rsk14) (enc:=enc14) (dec:=dec14) (tbl:=[]) (fun s=>rfl) Try.func14 (by kernel_rfl) (by kernel_rfl) (by kernel_rfl) (fun k=>les14)
  (fz) (fun k s0=> .nil)
  (F:=fun k s=>FX14 k s.1.1) (fun k s r h=>(e14 (FX35 k) (FX36 k) (FX37 k) s).trans (b14 k s.1.1 r h)) k
theorem b15 (k:Nat) (x0:TQ):LeO (FX15 k x0) (B15 (FX20 k) (FX34 k) (FX35 k) (FX36 k) (FX37 k) x0):=LeO.refl _
theorem ok15 (k:Nat):FeOk Try.prog (fe15 (FX15 k)):=
 fe_ok EOK HM (es:=fun k=>fes15 (FX20 k) (FX34 k) (FX35 k) (FX36 k) (FX37 k)) (fun k=>fc ⟨ok20 k,fc ⟨ok34 k,fc ⟨ok35 k,fc ⟨ok36 k,fc ⟨ok37 k,fz⟩⟩⟩⟩⟩) (N:=18) (an:=an15) (c:=cd15) (rms:=rm15) (ask:=ask15) (rsk:=rsk15) (enc:=enc15) (dec:=dec15) (tbl:=[]) (fun s=>rfl) Try.func15 (by kernel_rfl) (by kernel_rfl) (by kernel_rfl) (fun k=>les15)
  (fz) (fun k s0=> .nil)
  (F:=fun k s=>FX15 k s.1.1) (fun k s r h=>(e15 (FX20 k) (FX34 k) (FX35 k) (FX36 k) (FX37 k) s).trans (b15 k s.1.1 r h)) k
theorem b39 (k:Nat) (x0:TQ):LeO (FX39 k x0) (B39 x0):=LeO.refl _
theorem ok39 (k:Nat):FeOk Try.prog (fe39 (FX39 k)):=
 fe_ok EOK HM (es:=fun k=>fes39) (fun k=>fz) (N:=7) (an:=an39) (c:=cd39) (rms:=rm39) (ask:=ask39) (rsk:=rsk39) (enc:=enc39) (dec:=dec39) (tbl:=[]) (fun s=>rfl) Try.func39 (by kernel_rfl) (by kernel_rfl) (by kernel_rfl) (fun k=>les39)
  (fz) (fun k s0=> .nil)
  (F:=fun k s=>FX39 k s.1.1) (fun k s r h=>(e39 s).trans (b39 k s.1.1 r h)) k
theorem b40 (k:Nat) (x0:TQ):LeO (FX40 k x0) (B40 x0):=LeO.refl _
theorem ok40 (k:Nat):FeOk Try.prog (fe40 (FX40 k)):=
 fe_ok EOK HM (es:=fun k=>fes40) (fun k=>fz) (N:=13) (an:=an40) (c:=cd40) (rms:=rm40) (ask:=ask40) (rsk:=rsk40) (enc:=enc40) (dec:=dec40) (tbl:=[]) (fun s=>rfl) Try.func40 (by kernel_rfl) (by kernel_rfl) (by kernel_rfl) (fun k=>les40)
  (fz) (fun k s0=> .nil)
  (F:=fun k s=>FX40 k s.1.1) (fun k s r h=>(e40 s).trans (b40 k s.1.1 r h)) k
theorem b63 (k:Nat) (x0:ByteArray):LeO (FX63 k x0) (B63 (FX80 k) x0):=by
 show LeO (All.exact_NatBits.f x0) _
 unfold All.exact_NatBits.f;unfold B63;(try simp only [FX80,All.integer_zero.f,All.exact_stepAt.f,All.S24.f0,All.S24.f1,All.rd_T24,All.z24]);exact BR
theorem ok63 (k:Nat):FeOk Try.prog (fe63 (FX63 k)):=
 fe_ok EOK HM (es:=fun k=>fes63 (FX80 k)) (fun k=>fc ⟨ok80 k,fz⟩) (N:=13) (an:=an63) (c:=cd63) (rms:=rm63) (ask:=ask63) (rsk:=rsk63) (enc:=enc63) (dec:=dec63) (tbl:=[]) (fun s=>rfl) Try.func63 (by kernel_rfl) (by kernel_rfl) (by kernel_rfl) (fun k=>les63)
  (fz) (fun k s0=> .nil)
  (F:=fun k s=>FX63 k s.1.1) (fun k s r h=>(e63 (FX80 k) s).trans (b63 k s.1.1 r h)) k
theorem b41 (k:Nat) (x0:ByteArray) (x1:Int):LeO (FX41 k x0 x1) (B41 (FX63 k) x0 x1):=LeO.refl _
theorem ok41 (k:Nat):FeOk Try.prog (fe41 (FX41 k)):=
 fe_ok EOK HM (es:=fun k=>fes41 (FX63 k)) (fun k=>fc ⟨ok63 k,fz⟩) (N:=15) (an:=an41) (c:=cd41) (rms:=rm41) (ask:=ask41) (rsk:=rsk41) (enc:=enc41) (dec:=dec41) (tbl:=[]) (fun s=>rfl) Try.func41 (by kernel_rfl) (by kernel_rfl) (by kernel_rfl) (fun k=>les41)
  (fz) (fun k s0=> .nil)
  (F:=fun k s=>FX41 k s.1.1 s.1.2.1) (fun k s r h=>(e41 (FX63 k) s).trans (b41 k s.1.1 s.1.2.1 r h)) k
noncomputable abbrev GX65l0 (k:Nat) (x1:Int) (x5:(List Int)) (x6:(List Int)):Option R65:=All.exact_NatPow.l0 k x1 x5 x6
theorem b65l0 (k:Nat) (x1:Int) (x5:(List Int)) (x6:(List Int)):LeO (All.exact_NatPow.l0 (k+1) x1 x5 x6) (B65l0 (GX65l0 k) (FX75 k) (FX79 k) x1 x5 x6):=by rw [All.exact_NatPow.l0];unfold B65l0;(try simp only [GX65l0,FX73,FX75,FX79,All.integer_zero.f,All.exact_stepAt.f,All.S24.f0,All.S24.f1,All.rd_T24,All.z24]);exact BR
theorem b65 (k:Nat) (x0:ByteArray) (x1:Int):LeO (FX65 k x0 x1) (B65 (GX65l0 k) (FX73 k) x0 x1):=by
 show LeO (All.exact_NatPow.f k x0 x1) _
 unfold All.exact_NatPow.f;unfold B65;(try simp only [GX65l0,FX73,FX75,FX79,All.integer_zero.f,All.exact_stepAt.f,All.S24.f0,All.S24.f1,All.rd_T24,All.z24]);exact BR
theorem ok65 (k:Nat):FeOk Try.prog (fe65 (FX65 k)):=
 fe_ok EOK HM (es:=fun k=>fes65 (FX73 k) (FX75 k) (FX79 k)) (fun k=>fc ⟨ok73 k,fc ⟨ok75 k,fc ⟨ok79 k,fz⟩⟩⟩) (N:=25) (an:=an65) (c:=cd65) (rms:=rm65) (ask:=ask65) (rsk:=rsk65) (enc:=enc65) (dec:=dec65) (tbl:=[p65.getD 0 ⟨0,[], .skip⟩]) (fun s=>rfl) Try.func65 (by kernel_rfl) (by kernel_rfl) (by kernel_rfl) (fun k=>les65 (GX65l0 k))
  (fc ⟨fun s=>rfl,fz⟩) (fun k s0=> .cons (by kernel_rfl) (by kernel_rfl) (fun s r h=>(e65l0 (GX65l0 k) (FX73 k) (FX75 k) (FX79 k) s0 s).trans (b65l0 k s.1.1 s.1.2.1 s.1.2.2.1 r h)) (.nil))
  (F:=fun k s=>FX65 k s.1.1 s.1.2.1) (fun k s r h=>(e65 (GX65l0 k) (FX73 k) (FX75 k) (FX79 k) s).trans (b65 k s.1.1 s.1.2.1 r h)) k
theorem b64 (k:Nat) (x0:TI) (x1:Int):LeO (FX64 k x0 x1) (B64 (FX54 k) (FX65 k) x0 x1):=LeO.refl _
theorem ok64 (k:Nat):FeOk Try.prog (fe64 (FX64 k)):=
 fe_ok EOK HM (es:=fun k=>fes64 (FX54 k) (FX65 k)) (fun k=>fc ⟨ok54 k,fc ⟨ok65 k,fz⟩⟩) (N:=17) (an:=an64) (c:=cd64) (rms:=rm64) (ask:=ask64) (rsk:=rsk64) (enc:=enc64) (dec:=dec64) (tbl:=[]) (fun s=>rfl) Try.func64 (by kernel_rfl) (by kernel_rfl) (by kernel_rfl) (fun k=>les64)
  (fz) (fun k s0=> .nil)
  (F:=fun k s=>FX64 k s.1.1 s.1.2.1) (fun k s r h=>(e64 (FX54 k) (FX65 k) s).trans (b64 k s.1.1 s.1.2.1 r h)) k
theorem b42 (k:Nat) (x0:TQ) (x1:Int):LeO (FX42 k x0 x1) (B42 (FX64 k) (FX65 k) x0 x1):=LeO.refl _
theorem ok42 (k:Nat):FeOk Try.prog (fe42 (FX42 k)):=
 fe_ok EOK HM (es:=fun k=>fes42 (FX64 k) (FX65 k)) (fun k=>fc ⟨ok64 k,fc ⟨ok65 k,fz⟩⟩) (N:=14) (an:=an42) (c:=cd42) (rms:=rm42) (ask:=ask42) (rsk:=rsk42) (enc:=enc42) (dec:=dec42) (tbl:=[]) (fun s=>rfl) Try.func42 (by kernel_rfl) (by kernel_rfl) (by kernel_rfl) (fun k=>les42)
  (fz) (fun k s0=> .nil)
  (F:=fun k s=>FX42 k s.1.1 s.1.2.1) (fun k s r h=>(e42 (FX64 k) (FX65 k) s).trans (b42 k s.1.1 s.1.2.1 r h)) k
theorem b38 (k:Nat) (x0:(List TQ)) (y500:Int):LeO (FX38 k x0 y500) (B38 (FX39 k) (FX40 k) (FX41 k) (FX42 k) x0 y500):=LeO.refl _
theorem ok38 (k:Nat):FeOk Try.prog (fe38 (FX38 k)):=
 fe_ok EOK HM (es:=fun k=>fes38 (FX39 k) (FX40 k) (FX41 k) (FX42 k)) (fun k=>fc ⟨ok39 k,fc ⟨ok40 k,fc ⟨ok41 k,fc ⟨ok42 k,fz⟩⟩⟩⟩) (N:=40) (an:=an38) (c:=cd38) (rms:=rm38) (ask:=ask38) (rsk:=rsk38) (enc:=enc38) (dec:=dec38) (tbl:=[]) (fun s=>rfl) Try.func38 (by kernel_rfl) (by kernel_rfl) (by kernel_rfl) (fun k=>les38)
  (fz) (fun k s0=> .nil)
  (F:=fun k s=>FX38 k s.1.1 s.2.1) (fun k s r h=>(e38 (FX39 k) (FX40 k) (FX41 k) (FX42 k) s).trans (b38 k s.1.1 s.2.1 r h)) k
theorem b32Powl0 (k:Nat) (x1:(List TQ)) (x11:(List TQ)) (x12:Int) (x13:Int) (y100:Int) (x4:TQ):LeO (GX32Powl0 (k+1) x1 x11 x12 x13 y100 x4) (B32Powl0 (GX32Powl0 k) (FX22 k) (FX35 k) (FX38 k) x1 x11 x12 x13 y100 x4):=by rw [GX32Powl0];exact LeO.refl _
theorem b32Pow (k:Nat) (x1:(List TQ)) (y100:Int):LeO (FX32Pow k x1 y100) (B32Pow (GX32Powl0 k) x1 y100):=LeO.refl _
theorem ok32Pow (k:Nat):FeOk Try.prog (fe32Pow (FX32Pow k)):=
 fe_ok EOK HM (es:=fun k=>fes32Pow (FX22 k) (FX35 k) (FX38 k)) (fun k=>fc ⟨ok22 k,fc ⟨ok35 k,fc ⟨ok38 k,fz⟩⟩⟩) (N:=38) (an:=an32Pow) (c:=cd32Pow) (rms:=rm32Pow) (ask:=ask32Pow) (rsk:=rsk32Pow) (enc:=enc32Pow) (dec:=dec32Pow) (tbl:=[p32Pow.getD 0 ⟨0,[], .skip⟩]) (fun s=>rfl) Try.func32 (by kernel_rfl) (by kernel_rfl) (by kernel_rfl) (fun k=>les32Pow (GX32Powl0 k))
  (fc ⟨fun s=>rfl,fz⟩) (fun k s0=> .cons (by kernel_rfl) (by kernel_rfl) (fun s r h=>(e32Powl0 (GX32Powl0 k) (FX22 k) (FX35 k) (FX38 k) s0 s).trans (b32Powl0 k s.1.1 s.1.2.1 s.1.2.2.1 s.1.2.2.2.1 s.2.1 s.2.2.1 r h)) (.nil))
  (F:=fun k s=>FX32Pow k s.1.1 s.2.1) (fun k s r h=>(e32Pow (GX32Powl0 k) (FX22 k) (FX35 k) (FX38 k) s).trans (b32Pow k s.1.1 s.2.1 r h)) k
theorem b16 (k:Nat) (x0:TQ) (x1:Int):LeO (FX16 k x0 x1) (B16 (FX32Pow k) x0 x1):=LeO.refl _
theorem ok16 (k:Nat):FeOk Try.prog (fe16 (FX16 k)):=
 fe_ok EOK HM (es:=fun k=>fes16 (FX32Pow k)) (fun k=>fc ⟨ok32Pow k,fz⟩) (N:=12) (an:=an16) (c:=cd16) (rms:=rm16) (ask:=ask16) (rsk:=rsk16) (enc:=enc16) (dec:=dec16) (tbl:=[]) (fun s=>rfl) Try.func16 (by kernel_rfl) (by kernel_rfl) (by kernel_rfl) (fun k=>les16)
  (fz) (fun k s0=> .nil)
  (F:=fun k s=>FX16 k s.1.1 s.1.2.1) (fun k s r h=>(e16 (FX32Pow k) s).trans (b16 k s.1.1 s.1.2.1 r h)) k
theorem b92 (k:Nat) (x0:Int):LeO (FX92 k x0) (B92 x0):=by
 show LeO (All.exact_NatTwo.f x0) _
 unfold All.exact_NatTwo.f;unfold B92;(try simp only [All.integer_zero.f,All.exact_stepAt.f,All.S24.f0,All.S24.f1,All.rd_T24,All.z24]);exact BR
theorem ok92 (k:Nat):FeOk Try.prog (fe92 (FX92 k)):=
 fe_ok EOK HM (es:=fun k=>fes92) (fun k=>fz) (N:=15) (an:=an92) (c:=cd92) (rms:=rm92) (ask:=ask92) (rsk:=rsk92) (enc:=enc92) (dec:=dec92) (tbl:=[]) (fun s=>rfl) Try.func92 (by kernel_rfl) (by kernel_rfl) (by kernel_rfl) (fun k=>les92)
  (fz) (fun k s0=> .nil)
  (F:=fun k s=>FX92 k s.1.1) (fun k s r h=>(e92 s).trans (b92 k s.1.1 r h)) k
noncomputable abbrev GX81l0 (k:Nat) (x0:ByteArray) (x1:Int) (x5:ByteArray) (x6:Int):Option R81:=All.exact_NatRoot.l0 k x0 x1 x5 x6
theorem b81l0 (k:Nat) (x0:ByteArray) (x1:Int) (x5:ByteArray) (x6:Int):LeO (All.exact_NatRoot.l0 (k+1) x0 x1 x5 x6) (B81l0 (GX81l0 k) (FX65 k) (FX69 k) (FX77 k) (FX92 k) x0 x1 x5 x6):=by rw [All.exact_NatRoot.l0];unfold B81l0;(try simp only [GX81l0,FX63,FX65,FX69,FX77,FX92,All.integer_zero.f,All.exact_stepAt.f,All.S24.f0,All.S24.f1,All.rd_T24,All.z24]);exact BR
theorem b81 (k:Nat) (x0:ByteArray) (x1:Int):LeO (FX81 k x0 x1) (B81 (GX81l0 k) (FX63 k) x0 x1):=by
 show LeO (All.exact_NatRoot.f k x0 x1) _
 unfold All.exact_NatRoot.f;unfold B81;(try simp only [GX81l0,FX63,FX65,FX69,FX77,FX92,All.integer_zero.f,All.exact_stepAt.f,All.S24.f0,All.S24.f1,All.rd_T24,All.z24]);exact BR
theorem ok81 (k:Nat):FeOk Try.prog (fe81 (FX81 k)):=
 fe_ok EOK HM (es:=fun k=>fes81 (FX63 k) (FX65 k) (FX69 k) (FX77 k) (FX92 k)) (fun k=>fc ⟨ok63 k,fc ⟨ok65 k,fc ⟨ok69 k,fc ⟨ok77 k,fc ⟨ok92 k,fz⟩⟩⟩⟩⟩) (N:=31) (an:=an81) (c:=cd81) (rms:=rm81) (ask:=ask81) (rsk:=rsk81) (enc:=enc81) (dec:=dec81) (tbl:=[p81.getD 0 ⟨0,[], .skip⟩]) (fun s=>rfl) Try.func81 (by kernel_rfl) (by kernel_rfl) (by kernel_rfl) (fun k=>les81 (GX81l0 k))
  (fc ⟨fun s=>rfl,fz⟩) (fun k s0=> .cons (by kernel_rfl) (by kernel_rfl) (fun s r h=>(e81l0 (GX81l0 k) (FX63 k) (FX65 k) (FX69 k) (FX77 k) (FX92 k) s0 s).trans (b81l0 k s.1.1 s.1.2.1 s.1.2.2.1 s.1.2.2.2.1 r h)) (.nil))
  (F:=fun k s=>FX81 k s.1.1 s.1.2.1) (fun k s r h=>(e81 (GX81l0 k) (FX63 k) (FX65 k) (FX69 k) (FX77 k) (FX92 k) s).trans (b81 k s.1.1 s.1.2.1 r h)) k
theorem b66 (k:Nat) (x0:TI):LeO (FX66 k x0) (B66 (FX61 k) (FX81 k) x0):=by
 show LeO (All.exact_IntSqrt.f k x0.1 x0.2) _
 unfold All.exact_IntSqrt.f;unfold B66;(try simp only [FX61,FX81,All.integer_zero.f,All.exact_stepAt.f,All.S24.f0,All.S24.f1,All.rd_T24,All.z24]);exact BR
theorem ok66 (k:Nat):FeOk Try.prog (fe66 (FX66 k)):=
 fe_ok EOK HM (es:=fun k=>fes66 (FX61 k) (FX81 k)) (fun k=>fc ⟨ok61 k,fc ⟨ok81 k,fz⟩⟩) (N:=20) (an:=an66) (c:=cd66) (rms:=rm66) (ask:=ask66) (rsk:=rsk66) (enc:=enc66) (dec:=dec66) (tbl:=[]) (fun s=>rfl) Try.func66 (by kernel_rfl) (by kernel_rfl) (by kernel_rfl) (fun k=>les66)
  (fz) (fun k s0=> .nil)
  (F:=fun k s=>FX66 k s.1.1) (fun k s r h=>(e66 (FX61 k) (FX81 k) s).trans (b66 k s.1.1 r h)) k
theorem b67 (k:Nat) (x0:Int):LeO (FX67 k x0) (B67 (FX24 k) (FX48 k) x0):=LeO.refl _
theorem ok67 (k:Nat):FeOk Try.prog (fe67 (FX67 k)):=
 fe_ok EOK HM (es:=fun k=>fes67 (FX24 k) (FX48 k)) (fun k=>fc ⟨ok24 k,fc ⟨ok48 k,fz⟩⟩) (N:=6) (an:=an67) (c:=cd67) (rms:=rm67) (ask:=ask67) (rsk:=rsk67) (enc:=enc67) (dec:=dec67) (tbl:=[]) (fun s=>rfl) Try.func67 (by kernel_rfl) (by kernel_rfl) (by kernel_rfl) (fun k=>les67)
  (fz) (fun k s0=> .nil)
  (F:=fun k s=>FX67 k s.1.1) (fun k s r h=>(e67 (FX24 k) (FX48 k) s).trans (b67 k s.1.1 r h)) k
theorem b43 (k:Nat) (x0:TQ):LeO (FX43 k x0) (B43 (FX66 k) (FX67 k) x0):=LeO.refl _
theorem ok43 (k:Nat):FeOk Try.prog (fe43 (FX43 k)):=
 fe_ok EOK HM (es:=fun k=>fes43 (FX66 k) (FX67 k)) (fun k=>fc ⟨ok66 k,fc ⟨ok67 k,fz⟩⟩) (N:=32) (an:=an43) (c:=cd43) (rms:=rm43) (ask:=ask43) (rsk:=rsk43) (enc:=enc43) (dec:=dec43) (tbl:=[]) (fun s=>rfl) Try.func43 (by kernel_rfl) (by kernel_rfl) (by kernel_rfl) (fun k=>les43)
  (fz) (fun k s0=> .nil)
  (F:=fun k s=>FX43 k s.1.1) (fun k s r h=>(e43 (FX66 k) (FX67 k) s).trans (b43 k s.1.1 r h)) k
theorem b17 (k:Nat) (x0:TQ):LeO (FX17 k x0) (B17 (FX35 k) (FX43 k) x0):=LeO.refl _
theorem ok17 (k:Nat):FeOk Try.prog (fe17 (FX17 k)):=
 fe_ok EOK HM (es:=fun k=>fes17 (FX35 k) (FX43 k)) (fun k=>fc ⟨ok35 k,fc ⟨ok43 k,fz⟩⟩) (N:=23) (an:=an17) (c:=cd17) (rms:=rm17) (ask:=ask17) (rsk:=rsk17) (enc:=enc17) (dec:=dec17) (tbl:=[]) (fun s=>rfl) Try.func17 (by kernel_rfl) (by kernel_rfl) (by kernel_rfl) (fun k=>les17)
  (fz) (fun k s0=> .nil)
  (F:=fun k s=>FX17 k s.1.1) (fun k s r h=>(e17 (FX35 k) (FX43 k) s).trans (b17 k s.1.1 r h)) k
theorem b93 (k:Nat) (x0:ByteArray) (x1:Int):LeO (FX93 k x0 x1) (B93 (FX98 k) x0 x1):=LeO.refl _
theorem ok93 (k:Nat):FeOk Try.prog (fe93 (FX93 k)):=
 fe_ok EOK HM (es:=fun k=>fes93 (FX98 k)) (fun k=>fc ⟨ok98 k,fz⟩) (N:=8) (an:=an93) (c:=cd93) (rms:=rm93) (ask:=ask93) (rsk:=rsk93) (enc:=enc93) (dec:=dec93) (tbl:=[]) (fun s=>rfl) Try.func93 (by kernel_rfl) (by kernel_rfl) (by kernel_rfl) (fun k=>les93)
  (fz) (fun k s0=> .nil)
  (F:=fun k s=>FX93 k s.1.1 s.1.2.1) (fun k s r h=>(e93 (FX98 k) s).trans (b93 k s.1.1 s.1.2.1 r h)) k
theorem b82 (k:Nat) (x0:ByteArray) (x1:ByteArray):LeO (FX82 k x0 x1) (B82 (FX93 k) x0 x1):=LeO.refl _
theorem ok82 (k:Nat):FeOk Try.prog (fe82 (FX82 k)):=
 fe_ok EOK HM (es:=fun k=>fes82 (FX93 k)) (fun k=>fc ⟨ok93 k,fz⟩) (N:=143) (an:=an82) (c:=cd82) (rms:=rm82) (ask:=ask82) (rsk:=rsk82) (enc:=enc82) (dec:=dec82) (tbl:=[p82.getD 0 ⟨0,[], .skip⟩]) (fun s=>rfl) Try.func82 (by kernel_rfl) (by kernel_rfl) (by kernel_rfl) (fun k=>les82 (GX82l0 k))
  (fc ⟨fun s=>rfl,fz⟩) (fun k s0=> .cons (by kernel_rfl) (by kernel_rfl) (fun s r h=>nomatch h) (.nil))
  (F:=fun k s=>FX82 k s.1.1 s.1.2.1) (fun k s r h=>(e82 (GX82l0 k) (FX93 k) s).trans (b82 k s.1.1 s.1.2.1 r h)) k
theorem b68 (k:Nat) (x0:ByteArray) (x1:ByteArray):LeO (FX68 k x0 x1) (B68 (FX82 k) x0 x1):=LeO.refl _
theorem ok68 (k:Nat):FeOk Try.prog (fe68 (FX68 k)):=
 fe_ok EOK HM (es:=fun k=>fes68 (FX82 k)) (fun k=>fc ⟨ok82 k,fz⟩) (N:=23) (an:=an68) (c:=cd68) (rms:=rm68) (ask:=ask68) (rsk:=rsk68) (enc:=enc68) (dec:=dec68) (tbl:=[]) (fun s=>rfl) Try.func68 (by kernel_rfl) (by kernel_rfl) (by kernel_rfl) (fun k=>les68)
  (fz) (fun k s0=> .nil)
  (F:=fun k s=>FX68 k s.1.1 s.1.2.1) (fun k s r h=>(e68 (FX82 k) s).trans (b68 k s.1.1 s.1.2.1 r h)) k
theorem b44 (k:Nat) (x0:ByteArray) (x1:ByteArray):LeO (FX44 k x0 x1) (B44 (FX68 k) x0 x1):=LeO.refl _
theorem ok44 (k:Nat):FeOk Try.prog (fe44 (FX44 k)):=
 fe_ok EOK HM (es:=fun k=>fes44 (FX68 k)) (fun k=>fc ⟨ok68 k,fz⟩) (N:=13) (an:=an44) (c:=cd44) (rms:=rm44) (ask:=ask44) (rsk:=rsk44) (enc:=enc44) (dec:=dec44) (tbl:=[]) (fun s=>rfl) Try.func44 (by kernel_rfl) (by kernel_rfl) (by kernel_rfl) (fun k=>les44)
  (fz) (fun k s0=> .nil)
  (F:=fun k s=>FX44 k s.1.1 s.1.2.1) (fun k s r h=>(e44 (FX68 k) s).trans (b44 k s.1.1 s.1.2.1 r h)) k
theorem b71 (k:Nat) (x0:ByteArray):LeO (FX71 k x0) (B71 x0):=by
 show LeO (All.natural_bounded.f x0) _
 unfold All.natural_bounded.f;unfold B71;(try simp only [All.integer_zero.f,All.exact_stepAt.f,All.S24.f0,All.S24.f1,All.rd_T24,All.z24]);exact BR
theorem ok71 (k:Nat):FeOk Try.prog (fe71 (FX71 k)):=
 fe_ok EOK HM (es:=fun k=>fes71) (fun k=>fz) (N:=8) (an:=an71) (c:=cd71) (rms:=rm71) (ask:=ask71) (rsk:=rsk71) (enc:=enc71) (dec:=dec71) (tbl:=[]) (fun s=>rfl) Try.func71 (by kernel_rfl) (by kernel_rfl) (by kernel_rfl) (fun k=>les71)
  (fz) (fun k s0=> .nil)
  (F:=fun k s=>FX71 k s.1.1) (fun k s r h=>(e71 s).trans (b71 k s.1.1 r h)) k
noncomputable abbrev GX46l0 (k:Nat) (x0:ByteArray) (x26:Int) (x27:Int):Option R46:=All.natural_Parse.l0 k x0 x26 x27
noncomputable abbrev GX46l1 (k:Nat) (x0:ByteArray) (x5:ByteArray) (x6:Int):Option R46:=All.natural_Parse.l1 k x0 x5 x6
noncomputable abbrev GX46l2 (k:Nat) (x0:ByteArray) (x5:ByteArray) (x6:Int) (x7:Int) (x8:Int) (x9:Int):Option R46:=All.natural_Parse.l2 k x0 x5 x6 x7 x8 x9
theorem b46l0 (k:Nat) (x0:ByteArray) (x26:Int) (x27:Int):LeO (All.natural_Parse.l0 (k+1) x0 x26 x27) (B46l0 (GX46l0 k) (GX46l1 k) x0 x26 x27):=by
 rw [All.natural_Parse.l0]
 unfold B46l0
 (try simp only [GX46l0,GX46l1,GX46l2,FX61,FX69,FX70,FX71,All.integer_zero.f,All.exact_stepAt.f,All.S24.f0,All.S24.f1,All.rd_T24,All.z24])
 (try simp only [List.take_append_drop,List.drop_length,List.append_nil,Int.zero_sub,Int.toNat_natCast,Int.reduceToNat,Int.zero_add,List.take_zero,List.nil_append,List.append_assoc,List.length_set,ite_bind_,List.take_left,BAe,bne,decide_int_eq,decide_not,wrap_mod,if_true,if_false,Bool.false_eq_true,bind_assoc_,slice_def,List.drop_zero,List.take_length,wrap_u8,bind_some_,cnd_eq_if,rdOf,ite_not,Bool.and_eq_true,Bool.or_eq_true,Bool.not_eq_true',bfalse,Bool.not_eq_false',beq_iff_eq,decide_eq_true_eq,isEmpty_eq,ite_and_,ite_or_,ne_eq,toList_mk,List.toList_toArray])
 repeat' first
 | (with_reducible refine LeO.trans ((All.natural_Parse.mono_l k).1 _ _) ?_;rw [All.natural_Parse.j0];(try simp only [if_true,if_false,decide_eq_true_eq,Bool.false_eq_true,decide_not,ite_not,bne,decide_int_eq,beq_iff_eq,Bool.not_eq_true',bfalse,toList_mk,List.toList_toArray,ite_and_,ite_or_,Bool.and_eq_true,Bool.or_eq_true,isEmpty_eq,wrap_mod,wrap_u8,All.integer_zero.f,bind_some_,Int.toNat_natCast,Int.reduceToNat,Int.zero_sub,BAe]))
 | (with_reducible exact LeO.none _)
 | (with_reducible exact LeO.refl _)
 | (with_reducible refine LeO.posR (by with_reducible assumption) ?_)
 | (with_reducible refine LeO.negR (by with_reducible assumption) ?_)
 | (with_reducible refine LeO.bindR (by with_reducible assumption) ?_)
 | (with_reducible refine LeO.posL (by with_reducible assumption) ?_)
 | (with_reducible refine LeO.negL (by with_reducible assumption) ?_)
 | (with_reducible refine LeO.iteL (fun _=>?_) (fun _=>?_))
 | (with_reducible refine LeO.bindK (by with_reducible assumption) ?_)
 | (with_reducible refine LeO.bindL (fun _ _=>?_))
 | (refine LeO.posR (by first|decide|exact Int.le_refl _|omega|assumption) ?_)
 | (refine LeO.negR (by first|decide|omega) ?_)
theorem b46l1 (k:Nat) (x0:ByteArray) (x5:ByteArray) (x6:Int):LeO (All.natural_Parse.l1 (k+1) x0 x5 x6) (B46l1 (GX46l2 k) (FX71 k) x0 x5 x6):=by
 rw [All.natural_Parse.l1]
 unfold B46l1
 (try simp only [GX46l0,GX46l1,GX46l2,FX61,FX69,FX70,FX71,All.integer_zero.f,All.exact_stepAt.f,All.S24.f0,All.S24.f1,All.rd_T24,All.z24])
 (try simp only [List.take_append_drop,List.drop_length,List.append_nil,Int.zero_sub,Int.toNat_natCast,Int.reduceToNat,Int.zero_add,List.take_zero,List.nil_append,List.append_assoc,List.length_set,ite_bind_,List.take_left,BAe,bne,decide_int_eq,decide_not,wrap_mod,if_true,if_false,Bool.false_eq_true,bind_assoc_,slice_def,List.drop_zero,List.take_length,wrap_u8,bind_some_,cnd_eq_if,rdOf,ite_not,Bool.and_eq_true,Bool.or_eq_true,Bool.not_eq_true',bfalse,Bool.not_eq_false',beq_iff_eq,decide_eq_true_eq,isEmpty_eq,ite_and_,ite_or_,ne_eq,toList_mk,List.toList_toArray])
 repeat' first
 | (with_reducible refine LeO.trans ((All.natural_Parse.mono_l k).1 _ _) ?_;rw [All.natural_Parse.j0];(try simp only [if_true,if_false,decide_eq_true_eq,Bool.false_eq_true,decide_not,ite_not,bne,decide_int_eq,beq_iff_eq,Bool.not_eq_true',bfalse,toList_mk,List.toList_toArray,ite_and_,ite_or_,Bool.and_eq_true,Bool.or_eq_true,isEmpty_eq,wrap_mod,wrap_u8,All.integer_zero.f,bind_some_,Int.toNat_natCast,Int.reduceToNat,Int.zero_sub,BAe]))
 | (with_reducible exact LeO.none _)
 | (with_reducible exact LeO.refl _)
 | (with_reducible refine LeO.posR (by with_reducible assumption) ?_)
 | (with_reducible refine LeO.negR (by with_reducible assumption) ?_)
 | (with_reducible refine LeO.bindR (by with_reducible assumption) ?_)
 | (with_reducible refine LeO.posL (by with_reducible assumption) ?_)
 | (with_reducible refine LeO.negL (by with_reducible assumption) ?_)
 | (with_reducible refine LeO.iteL (fun _=>?_) (fun _=>?_))
 | (with_reducible refine LeO.bindK (by with_reducible assumption) ?_)
 | (with_reducible refine LeO.bindL (fun _ _=>?_))
 | (refine LeO.posR (by first|decide|exact Int.le_refl _|omega|assumption) ?_)
 | (refine LeO.negR (by first|decide|omega) ?_)
theorem b46l2 (k:Nat) (x0:ByteArray) (x5:ByteArray) (x6:Int) (x7:Int) (x8:Int) (x9:Int):LeO (All.natural_Parse.l2 (k+1) x0 x5 x6 x7 x8 x9) (B46l2 (GX46l1 k) (GX46l2 k) (FX61 k) (FX69 k) (FX70 k) x0 x5 x6 x7 x8 x9):=by
 rw [All.natural_Parse.l2]
 unfold B46l2
 (try simp only [GX46l0,GX46l1,GX46l2,FX61,FX69,FX70,FX71,All.integer_zero.f,All.exact_stepAt.f,All.S24.f0,All.S24.f1,All.rd_T24,All.z24])
 (try simp only [List.take_append_drop,List.drop_length,List.append_nil,Int.zero_sub,Int.toNat_natCast,Int.reduceToNat,Int.zero_add,List.take_zero,List.nil_append,List.append_assoc,List.length_set,ite_bind_,List.take_left,BAe,bne,decide_int_eq,decide_not,wrap_mod,if_true,if_false,Bool.false_eq_true,bind_assoc_,slice_def,List.drop_zero,List.take_length,wrap_u8,bind_some_,cnd_eq_if,rdOf,ite_not,Bool.and_eq_true,Bool.or_eq_true,Bool.not_eq_true',bfalse,Bool.not_eq_false',beq_iff_eq,decide_eq_true_eq,isEmpty_eq,ite_and_,ite_or_,ne_eq,toList_mk,List.toList_toArray])
 repeat' first
 | (with_reducible refine LeO.trans ((All.natural_Parse.mono_l k).1 _ _) ?_;rw [All.natural_Parse.j0];(try simp only [if_true,if_false,decide_eq_true_eq,Bool.false_eq_true,decide_not,ite_not,bne,decide_int_eq,beq_iff_eq,Bool.not_eq_true',bfalse,toList_mk,List.toList_toArray,ite_and_,ite_or_,Bool.and_eq_true,Bool.or_eq_true,isEmpty_eq,wrap_mod,wrap_u8,All.integer_zero.f,bind_some_,Int.toNat_natCast,Int.reduceToNat,Int.zero_sub,BAe]))
 | (with_reducible exact LeO.none _)
 | (with_reducible exact LeO.refl _)
 | (with_reducible refine LeO.posR (by with_reducible assumption) ?_)
 | (with_reducible refine LeO.negR (by with_reducible assumption) ?_)
 | (with_reducible refine LeO.bindR (by with_reducible assumption) ?_)
 | (with_reducible refine LeO.posL (by with_reducible assumption) ?_)
 | (with_reducible refine LeO.negL (by with_reducible assumption) ?_)
 | (with_reducible refine LeO.iteL (fun _=>?_) (fun _=>?_))
 | (with_reducible refine LeO.bindK (by with_reducible assumption) ?_)
 | (with_reducible refine LeO.bindL (fun _ _=>?_))
 | (refine LeO.posR (by first|decide|exact Int.le_refl _|omega|assumption) ?_)
 | (refine LeO.negR (by first|decide|omega) ?_)
theorem b46 (k:Nat) (x0:ByteArray):LeO (FX46 k x0) (B46 (GX46l0 k) x0):=by
 show LeO (All.natural_Parse.f k x0) _
 unfold All.natural_Parse.f
 unfold B46
 (try simp only [GX46l0,GX46l1,GX46l2,FX61,FX69,FX70,FX71,All.integer_zero.f,All.exact_stepAt.f,All.S24.f0,All.S24.f1,All.rd_T24,All.z24])
 (try simp only [List.take_append_drop,List.drop_length,List.append_nil,Int.zero_sub,Int.toNat_natCast,Int.reduceToNat,Int.zero_add,List.take_zero,List.nil_append,List.append_assoc,List.length_set,ite_bind_,List.take_left,BAe,bne,decide_int_eq,decide_not,wrap_mod,if_true,if_false,Bool.false_eq_true,bind_assoc_,slice_def,List.drop_zero,List.take_length,wrap_u8,bind_some_,cnd_eq_if,rdOf,ite_not,Bool.and_eq_true,Bool.or_eq_true,Bool.not_eq_true',bfalse,Bool.not_eq_false',beq_iff_eq,decide_eq_true_eq,isEmpty_eq,ite_and_,ite_or_,ne_eq,toList_mk,List.toList_toArray])
 repeat' first
 | (with_reducible refine LeO.trans ((All.natural_Parse.mono_l k).1 _ _) ?_;rw [All.natural_Parse.j0];(try simp only [if_true,if_false,decide_eq_true_eq,Bool.false_eq_true,decide_not,ite_not,bne,decide_int_eq,beq_iff_eq,Bool.not_eq_true',bfalse,toList_mk,List.toList_toArray,ite_and_,ite_or_,Bool.and_eq_true,Bool.or_eq_true,isEmpty_eq,wrap_mod,wrap_u8,All.integer_zero.f,bind_some_,Int.toNat_natCast,Int.reduceToNat,Int.zero_sub,BAe]))
 | (with_reducible exact LeO.none _)
 | (with_reducible exact LeO.refl _)
 | (with_reducible refine LeO.posR (by with_reducible assumption) ?_)
 | (with_reducible refine LeO.negR (by with_reducible assumption) ?_)
 | (with_reducible refine LeO.bindR (by with_reducible assumption) ?_)
 | (with_reducible refine LeO.posL (by with_reducible assumption) ?_)
 | (with_reducible refine LeO.negL (by with_reducible assumption) ?_)
 | (with_reducible refine LeO.iteL (fun _=>?_) (fun _=>?_))
 | (with_reducible refine LeO.bindK (by with_reducible assumption) ?_)
 | (with_reducible refine LeO.bindL (fun _ _=>?_))
 | (refine LeO.posR (by first|decide|exact Int.le_refl _|omega|assumption) ?_)
 | (refine LeO.negR (by first|decide|omega) ?_)
theorem ok46 (k:Nat):FeOk Try.prog (fe46 (FX46 k)):=
 fe_ok EOK HM (es:=fun k=>fes46 (FX61 k) (FX69 k) (FX70 k) (FX71 k)) (fun k=>fc ⟨ok61 k,fc ⟨ok69 k,fc ⟨ok70 k,fc ⟨ok71 k,fz⟩⟩⟩⟩) (N:=76) (an:=an46) (c:=cd46) (rms:=rm46) (ask:=ask46) (rsk:=rsk46) (enc:=enc46) (dec:=dec46) (tbl:=[p46.getD 0 ⟨0,[], .skip⟩,p46.getD 1 ⟨0,[], .skip⟩,p46.getD 2 ⟨0,[], .skip⟩]) (fun s=>rfl) Try.func46 (by kernel_rfl) (by kernel_rfl) (by kernel_rfl) (fun k=>les46 (GX46l0 k) (GX46l1 k) (GX46l2 k))
  (fc ⟨fun s=>rfl,fc ⟨fun s=>rfl,fc ⟨fun s=>rfl,fz⟩⟩⟩) (fun k s0=> .cons (by kernel_rfl) (by kernel_rfl) (fun s r h=>(e46l0 (GX46l0 k) (GX46l1 k) (GX46l2 k) (FX61 k) (FX69 k) (FX70 k) (FX71 k) s0 s).trans (b46l0 k s.1.1 s.1.2.1 s.1.2.2.1 r h)) (.cons (by kernel_rfl) (by kernel_rfl) (fun s r h=>(e46l1 (GX46l0 k) (GX46l1 k) (GX46l2 k) (FX61 k) (FX69 k) (FX70 k) (FX71 k) s0 s).trans (b46l1 k s.1.1 s.1.2.1 s.1.2.2.1 r h)) (.cons (by kernel_rfl) (by kernel_rfl) (fun s r h=>(e46l2 (GX46l0 k) (GX46l1 k) (GX46l2 k) (FX61 k) (FX69 k) (FX70 k) (FX71 k) s0 s).trans (b46l2 k s.1.1 s.1.2.1 s.1.2.2.1 s.1.2.2.2.1 s.1.2.2.2.2.1 s.1.2.2.2.2.2.1 r h)) (.nil))))
  (F:=fun k s=>FX46 k s.1.1) (fun k s r h=>(e46 (GX46l0 k) (GX46l1 k) (GX46l2 k) (FX61 k) (FX69 k) (FX70 k) (FX71 k) s).trans (b46 k s.1.1 r h)) k
theorem b45 (k:Nat) (x0:ByteArray):LeO (FX45 k x0) (B45 (FX46 k) (FX50 k) x0):=by
 show LeO (All.integer_Parse.f k x0) _
 unfold All.integer_Parse.f
 unfold B45
 (try simp only [FX46,FX50,All.integer_zero.f,All.exact_stepAt.f,All.S24.f0,All.S24.f1,All.rd_T24,All.z24])
 (try simp only [List.take_append_drop,List.drop_length,List.append_nil,Int.zero_sub,Int.toNat_natCast,Int.reduceToNat,Int.zero_add,List.take_zero,List.nil_append,List.append_assoc,List.length_set,ite_bind_,List.take_left,BAe,bne,decide_int_eq,decide_not,wrap_mod,if_true,if_false,Bool.false_eq_true,bind_assoc_,slice_def,List.drop_zero,List.take_length,wrap_u8,bind_some_,cnd_eq_if,rdOf,ite_not,Bool.and_eq_true,Bool.or_eq_true,Bool.not_eq_true',bfalse,Bool.not_eq_false',beq_iff_eq,decide_eq_true_eq,isEmpty_eq,ite_and_,ite_or_,ne_eq,toList_mk,List.toList_toArray])
 repeat' first
 | (with_reducible refine LeO.trans ((All.integer_Parse.mono_l k).1 _ _) ?_;rw [All.integer_Parse.j0];(try simp only [if_true,if_false,decide_eq_true_eq,Bool.false_eq_true,decide_not,ite_not,bne,decide_int_eq,beq_iff_eq,Bool.not_eq_true',bfalse,toList_mk,List.toList_toArray,ite_and_,ite_or_,Bool.and_eq_true,Bool.or_eq_true,isEmpty_eq,wrap_mod,wrap_u8,All.integer_zero.f,bind_some_,Int.toNat_natCast,Int.reduceToNat,Int.zero_sub,BAe]))
 | (with_reducible refine LeO.trans ((All.integer_Parse.mono_l k).2 _ _) ?_;rw [All.integer_Parse.j1];(try simp only [if_true,if_false,decide_eq_true_eq,Bool.false_eq_true,decide_not,ite_not,bne,decide_int_eq,beq_iff_eq,Bool.not_eq_true',bfalse,toList_mk,List.toList_toArray,ite_and_,ite_or_,Bool.and_eq_true,Bool.or_eq_true,isEmpty_eq,wrap_mod,wrap_u8,All.integer_zero.f,bind_some_,Int.toNat_natCast,Int.reduceToNat,Int.zero_sub,BAe]))
 | (with_reducible exact LeO.none _)
 | (with_reducible exact LeO.refl _)
 | (with_reducible refine LeO.posR (by with_reducible assumption) ?_)
 | (with_reducible refine LeO.negR (by with_reducible assumption) ?_)
 | (with_reducible refine LeO.bindR (by with_reducible assumption) ?_)
 | (with_reducible refine LeO.posL (by with_reducible assumption) ?_)
 | (with_reducible refine LeO.negL (by with_reducible assumption) ?_)
 | (with_reducible refine LeO.iteL (fun _=>?_) (fun _=>?_))
 | (with_reducible refine LeO.bindK (by with_reducible assumption) ?_)
 | (with_reducible refine LeO.bindL (fun _ _=>?_))
 | (refine LeO.posR (by first|decide|exact Int.le_refl _|omega|assumption) ?_)
 | (refine LeO.negR (by first|decide|omega) ?_)
theorem ok45 (k:Nat):FeOk Try.prog (fe45 (FX45 k)):=
 fe_ok EOK HM (es:=fun k=>fes45 (FX46 k) (FX50 k)) (fun k=>fc ⟨ok46 k,fc ⟨ok50 k,fz⟩⟩) (N:=40) (an:=an45) (c:=cd45) (rms:=rm45) (ask:=ask45) (rsk:=rsk45) (enc:=enc45) (dec:=dec45) (tbl:=[]) (fun s=>rfl) Try.func45 (by kernel_rfl) (by kernel_rfl) (by kernel_rfl) (fun k=>les45)
  (fz) (fun k s0=> .nil)
  (F:=fun k s=>FX45 k s.1.1) (fun k s r h=>(e45 (FX46 k) (FX50 k) s).trans (b45 k s.1.1 r h)) k
theorem b18 (k:Nat) (x0:ByteArray):LeO (FX18 k x0) (B18 (FX35 k) (FX44 k) (FX45 k) (FX46 k) x0):=LeO.refl _
theorem ok18 (k:Nat):FeOk Try.prog (fe18 (FX18 k)):=
 fe_ok EOK HM (es:=fun k=>fes18 (FX35 k) (FX44 k) (FX45 k) (FX46 k)) (fun k=>fc ⟨ok35 k,fc ⟨ok44 k,fc ⟨ok45 k,fc ⟨ok46 k,fz⟩⟩⟩⟩) (N:=71) (an:=an18) (c:=cd18) (rms:=rm18) (ask:=ask18) (rsk:=rsk18) (enc:=enc18) (dec:=dec18) (tbl:=[]) (fun s=>rfl) Try.func18 (by kernel_rfl) (by kernel_rfl) (by kernel_rfl) (fun k=>les18)
  (fz) (fun k s0=> .nil)
  (F:=fun k s=>FX18 k s.1.1) (fun k s r h=>(e18 (FX35 k) (FX44 k) (FX45 k) (FX46 k) s).trans (b18 k s.1.1 r h)) k
theorem b4 (k:Nat):LeO (FX4 k) (B4 (FX5 k) (FX9 k) (FX13 k) (FX14 k) (FX15 k) (FX16 k) (FX17 k) (FX18 k) (FX19 k)):=LeO.refl _
theorem ok4 (k:Nat):FeOk Try.prog (fe4 (FX4 k)):=
 fe_ok EOK HM (es:=fun k=>fes4 (FX5 k) (FX9 k) (FX13 k) (FX14 k) (FX15 k) (FX16 k) (FX17 k) (FX18 k) (FX19 k)) (fun k=>fc ⟨ok5 k,fc ⟨ok9 k,fc ⟨ok13 k,fc ⟨ok14 k,fc ⟨ok15 k,fc ⟨ok16 k,fc ⟨ok17 k,fc ⟨ok18 k,fc ⟨ok19 k,fz⟩⟩⟩⟩⟩⟩⟩⟩⟩) (N:=119) (an:=an4) (c:=cd4) (rms:=rm4) (ask:=ask4) (rsk:=rsk4) (enc:=enc4) (dec:=dec4) (tbl:=[]) (fun s=>rfl) Try.func4 (by kernel_rfl) (by kernel_rfl) (by kernel_rfl) (fun k=>les4)
  (fz) (fun k s0=> .nil)
  (F:=fun k s=>FX4 k) (fun k s r h=>(e4 (FX5 k) (FX9 k) (FX13 k) (FX14 k) (FX15 k) (FX16 k) (FX17 k) (FX18 k) (FX19 k) s).trans (b4 k r h)) k
theorem b6l0 (k:Nat) (x12:Int) (x13:Int) (x2:TI) (x3:TI) (x4:TQ) (x11:(List TI)):LeO (GX6l0 (k+1) x12 x13 x2 x3 x4 x11) (B6l0 (GX6l0 k) (FX21 k) (FX22 k) (FX23 k) x12 x13 x2 x3 x4 x11):=by rw [GX6l0];exact LeO.refl _
theorem b6 (k:Nat) (x0:TI) (x1:TI):LeO (FX6 k x0 x1) (B6 (GX6l0 k) x0 x1):=LeO.refl _
theorem ok6 (k:Nat):FeOk Try.prog (fe6 (FX6 k)):=
 fe_ok EOK HM (es:=fun k=>fes6 (FX21 k) (FX22 k) (FX23 k)) (fun k=>fc ⟨ok21 k,fc ⟨ok22 k,fc ⟨ok23 k,fz⟩⟩⟩) (N:=34) (an:=an6) (c:=cd6) (rms:=rm6) (ask:=ask6) (rsk:=rsk6) (enc:=enc6) (dec:=dec6) (tbl:=[p6.getD 0 ⟨0,[], .skip⟩]) (fun s=>rfl) Try.func6 (by kernel_rfl) (by kernel_rfl) (by kernel_rfl) (fun k=>les6 (GX6l0 k))
  (fc ⟨fun s=>rfl,fz⟩) (fun k s0=> .cons (by kernel_rfl) (by kernel_rfl) (fun s r h=>(e6l0 (GX6l0 k) (FX21 k) (FX22 k) (FX23 k) s0 s).trans (b6l0 k s.1.1 s.1.2.1 s.2.1 s.2.2.1 s.2.2.2.1 s.2.2.2.2.1 r h)) (.nil))
  (F:=fun k s=>FX6 k s.1.1 s.1.2.1) (fun k s r h=>(e6 (GX6l0 k) (FX21 k) (FX22 k) (FX23 k) s).trans (b6 k s.1.1 s.1.2.1 r h)) k
theorem b7 (k:Nat) (x0:TI):LeO (FX7 k x0) (B7 (FX21 k) (FX24 k) x0):=LeO.refl _
theorem ok7 (k:Nat):FeOk Try.prog (fe7 (FX7 k)):=
 fe_ok EOK HM (es:=fun k=>fes7 (FX21 k) (FX24 k)) (fun k=>fc ⟨ok21 k,fc ⟨ok24 k,fz⟩⟩) (N:=13) (an:=an7) (c:=cd7) (rms:=rm7) (ask:=ask7) (rsk:=rsk7) (enc:=enc7) (dec:=dec7) (tbl:=[]) (fun s=>rfl) Try.func7 (by kernel_rfl) (by kernel_rfl) (by kernel_rfl) (fun k=>les7)
  (fz) (fun k s0=> .nil)
  (F:=fun k s=>FX7 k s.1.1) (fun k s r h=>(e7 (FX21 k) (FX24 k) s).trans (b7 k s.1.1 r h)) k
theorem b55 (k:Nat) (x0:ByteArray):LeO (FX55 k x0) (B55 x0):=by
 show LeO (All.galoisref01_Fits.f x0) _
 unfold All.galoisref01_Fits.f;unfold B55;(try simp only [All.integer_zero.f,All.exact_stepAt.f,All.S24.f0,All.S24.f1,All.rd_T24,All.z24]);exact BR
theorem ok55 (k:Nat):FeOk Try.prog (fe55 (FX55 k)):=
 fe_ok EOK HM (es:=fun k=>fes55) (fun k=>fz) (N:=6) (an:=an55) (c:=cd55) (rms:=rm55) (ask:=ask55) (rsk:=rsk55) (enc:=enc55) (dec:=dec55) (tbl:=[]) (fun s=>rfl) Try.func55 (by kernel_rfl) (by kernel_rfl) (by kernel_rfl) (fun k=>les55)
  (fz) (fun k s0=> .nil)
  (F:=fun k s=>FX55 k s.1.1) (fun k s r h=>(e55 s).trans (b55 k s.1.1 r h)) k
theorem b28 (k:Nat) (x0:TI):LeO (FX28 k x0) (B28 (FX55 k) x0):=by
 show LeO (All.galoisref02_Fits.f x0.1 x0.2) _
 unfold All.galoisref02_Fits.f;unfold B28;(try simp only [FX55,All.integer_zero.f,All.exact_stepAt.f,All.S24.f0,All.S24.f1,All.rd_T24,All.z24]);exact BR
theorem ok28 (k:Nat):FeOk Try.prog (fe28 (FX28 k)):=
 fe_ok EOK HM (es:=fun k=>fes28 (FX55 k)) (fun k=>fc ⟨ok55 k,fz⟩) (N:=6) (an:=an28) (c:=cd28) (rms:=rm28) (ask:=ask28) (rsk:=rsk28) (enc:=enc28) (dec:=dec28) (tbl:=[]) (fun s=>rfl) Try.func28 (by kernel_rfl) (by kernel_rfl) (by kernel_rfl) (fun k=>les28)
  (fz) (fun k s0=> .nil)
  (F:=fun k s=>FX28 k s.1.1) (fun k s r h=>(e28 (FX55 k) s).trans (b28 k s.1.1 r h)) k
theorem b25 (k:Nat) (x0:TQ):LeO (FX25 k x0) (B25 (FX28 k) (FX55 k) x0):=LeO.refl _
theorem ok25 (k:Nat):FeOk Try.prog (fe25 (FX25 k)):=
 fe_ok EOK HM (es:=fun k=>fes25 (FX28 k) (FX55 k)) (fun k=>fc ⟨ok28 k,fc ⟨ok55 k,fz⟩⟩) (N:=10) (an:=an25) (c:=cd25) (rms:=rm25) (ask:=ask25) (rsk:=rsk25) (enc:=enc25) (dec:=dec25) (tbl:=[]) (fun s=>rfl) Try.func25 (by kernel_rfl) (by kernel_rfl) (by kernel_rfl) (fun k=>les25)
  (fz) (fun k s0=> .nil)
  (F:=fun k s=>FX25 k s.1.1) (fun k s r h=>(e25 (FX28 k) (FX55 k) s).trans (b25 k s.1.1 r h)) k
theorem b8 (k:Nat) (x0:TQ) (x1:Int) (x2:Int) (x3:TQ):LeO (FX8 k x0 x1 x2 x3) (B8 (FX25 k) x0 x1 x2 x3):=LeO.refl _
theorem ok8 (k:Nat):FeOk Try.prog (fe8 (FX8 k)):=
 fe_ok EOK HM (es:=fun k=>fes8 (FX25 k)) (fun k=>fc ⟨ok25 k,fz⟩) (N:=30) (an:=an8) (c:=cd8) (rms:=rm8) (ask:=ask8) (rsk:=rsk8) (enc:=enc8) (dec:=dec8) (tbl:=[]) (fun s=>rfl) Try.func8 (by kernel_rfl) (by kernel_rfl) (by kernel_rfl) (fun k=>les8)
  (fz) (fun k s0=> .nil)
  (F:=fun k s=>FX8 k s.1.1 s.1.2.1 s.1.2.2.1 s.1.2.2.2.1) (fun k s r h=>(e8 (FX25 k) s).trans (b8 k s.1.1 s.1.2.1 s.1.2.2.1 s.1.2.2.2.1 r h)) k
theorem b56 (k:Nat) (x0:ByteArray):LeO (FX56 k x0) (B56 x0):=by
 show LeO (All.galoisref01_Valid.f x0) _
 unfold All.galoisref01_Valid.f;unfold B56;(try simp only [All.integer_zero.f,All.exact_stepAt.f,All.S24.f0,All.S24.f1,All.rd_T24,All.z24]);exact BR
theorem ok56 (k:Nat):FeOk Try.prog (fe56 (FX56 k)):=
 fe_ok EOK HM (es:=fun k=>fes56) (fun k=>fz) (N:=10) (an:=an56) (c:=cd56) (rms:=rm56) (ask:=ask56) (rsk:=rsk56) (enc:=enc56) (dec:=dec56) (tbl:=[]) (fun s=>rfl) Try.func56 (by kernel_rfl) (by kernel_rfl) (by kernel_rfl) (fun k=>les56)
  (fz) (fun k s0=> .nil)
  (F:=fun k s=>FX56 k s.1.1) (fun k s r h=>(e56 s).trans (b56 k s.1.1 r h)) k
theorem b27 (k:Nat) (x0:TI):LeO (FX27 k x0) (B27 (FX56 k) x0):=by
 show LeO (All.galoisref02_Valid.f x0.1 x0.2) _
 unfold All.galoisref02_Valid.f;unfold B27;(try simp only [FX56,All.integer_zero.f,All.exact_stepAt.f,All.S24.f0,All.S24.f1,All.rd_T24,All.z24]);exact BR
theorem ok27 (k:Nat):FeOk Try.prog (fe27 (FX27 k)):=
 fe_ok EOK HM (es:=fun k=>fes27 (FX56 k)) (fun k=>fc ⟨ok56 k,fz⟩) (N:=16) (an:=an27) (c:=cd27) (rms:=rm27) (ask:=ask27) (rsk:=rsk27) (enc:=enc27) (dec:=dec27) (tbl:=[]) (fun s=>rfl) Try.func27 (by kernel_rfl) (by kernel_rfl) (by kernel_rfl) (fun k=>les27)
  (fz) (fun k s0=> .nil)
  (F:=fun k s=>FX27 k s.1.1) (fun k s r h=>(e27 (FX56 k) s).trans (b27 k s.1.1 r h)) k
theorem b10 (k:Nat) (x0:TI):LeO (FX10 k x0) (B10 (FX27 k) (FX28 k) x0):=by
 show LeO (All.galoisref02_Check.f x0.1 x0.2) _
 unfold All.galoisref02_Check.f;unfold B10;(try simp only [FX27,FX28,All.integer_zero.f,All.exact_stepAt.f,All.S24.f0,All.S24.f1,All.rd_T24,All.z24]);exact BR
theorem ok10 (k:Nat):FeOk Try.prog (fe10 (FX10 k)):=
 fe_ok EOK HM (es:=fun k=>fes10 (FX27 k) (FX28 k)) (fun k=>fc ⟨ok27 k,fc ⟨ok28 k,fz⟩⟩) (N:=8) (an:=an10) (c:=cd10) (rms:=rm10) (ask:=ask10) (rsk:=rsk10) (enc:=enc10) (dec:=dec10) (tbl:=[]) (fun s=>rfl) Try.func10 (by kernel_rfl) (by kernel_rfl) (by kernel_rfl) (fun k=>les10)
  (fz) (fun k s0=> .nil)
  (F:=fun k s=>FX10 k s.1.1) (fun k s r h=>(e10 (FX27 k) (FX28 k) s).trans (b10 k s.1.1 r h)) k
theorem b11 (k:Nat) (x0:TI):LeO (FX11 k x0) (B11 x0):=LeO.refl _
theorem ok11 (k:Nat):FeOk Try.prog (fe11 (FX11 k)):=
 fe_ok EOK HM (es:=fun k=>fes11) (fun k=>fz) (N:=5) (an:=an11) (c:=cd11) (rms:=rm11) (ask:=ask11) (rsk:=rsk11) (enc:=enc11) (dec:=dec11) (tbl:=[]) (fun s=>rfl) Try.func11 (by kernel_rfl) (by kernel_rfl) (by kernel_rfl) (fun k=>les11)
  (fz) (fun k s0=> .nil)
  (F:=fun k s=>FX11 k s.1.1) (fun k s r h=>(e11 s).trans (b11 k s.1.1 r h)) k
theorem LeO.cnd_ {α:Type} {b:Bool} {x y x' y':Option α} (h:LeO x x') (k:LeO y y'):LeO (cnd b x y) (cnd b x' y'):=by cases b<;>assumption
theorem m52 (k:Nat) (x0:ByteArray) (x1:ByteArray):LeO (FX52 k x0 x1) (FX52 (k+1) x0 x1):=by
 first|exact LeO.refl _|apply All.exact_NatGcd.mono| (refine LeO.bind ?_ (fun _=>LeO.refl _);apply All.exact_NatGcd.mono)
theorem m53 (k:Nat) (x0:ByteArray) (x1:ByteArray):LeO (FX53 k x0 x1) (FX53 (k+1) x0 x1):=by
 first|exact LeO.refl _|apply All.exact_NatDivMod.mono| (refine LeO.bind ?_ (fun _=>LeO.refl _);apply All.exact_NatDivMod.mono)
theorem m54 (k:Nat) (x0:Bool) (x1:ByteArray):LeO (FX54 k x0 x1) (FX54 (k+1) x0 x1):=LeO.refl _
theorem m23 (k:Nat) (x0:TI) (x1:TI):LeO (FX23 k x0 x1) (FX23 (k+1) x0 x1):=by
 show LeO (B23 (FX52 k) (FX53 k) (FX54 k) x0 x1) (B23 (FX52 (k+1)) (FX53 (k+1)) (FX54 (k+1)) x0 x1)
 unfold B23
 with_reducible repeat' first|exact LeO.refl _|exact LeO.none _|apply m52|apply m53|apply m54|refine LeO.ite ?_ ?_|refine LeO.cnd_ ?_ ?_|refine LeO.bind ?_ (fun _=>?_)
theorem m48 (k:Nat) (x0:Int):LeO (FX48 k x0) (FX48 (k+1) x0):=by
 first|exact LeO.refl _|apply All.exact_IntOf.mono| (refine LeO.bind ?_ (fun _=>LeO.refl _);apply All.exact_IntOf.mono)
theorem m20 (k:Nat) (x0:Int) (x1:Int):LeO (FX20 k x0 x1) (FX20 (k+1) x0 x1):=by
 show LeO (B20 (FX23 k) (FX48 k) x0 x1) (B20 (FX23 (k+1)) (FX48 (k+1)) x0 x1)
 unfold B20
 with_reducible repeat' first|exact LeO.refl _|exact LeO.none _|apply m23|apply m48|refine LeO.ite ?_ ?_|refine LeO.cnd_ ?_ ?_|refine LeO.bind ?_ (fun _=>?_)
theorem m5 (k:Nat) (x0:Int) (x1:Int):LeO (FX5 k x0 x1) (FX5 (k+1) x0 x1):=by
 show LeO (B5 (FX20 k) x0 x1) (B5 (FX20 (k+1)) x0 x1)
 unfold B5
 with_reducible repeat' first|exact LeO.refl _|exact LeO.none _|apply m20|refine LeO.ite ?_ ?_|refine LeO.cnd_ ?_ ?_|refine LeO.bind ?_ (fun _=>?_)
theorem m30 (k:Nat) (x0:ByteArray) (x1:ByteArray):LeO (FX30 k x0 x1) (FX30 (k+1) x0 x1):=by
 first|exact LeO.refl _|apply All.galoisref01_DivMod.mono| (refine LeO.bind ?_ (fun _=>LeO.refl _);apply All.galoisref01_DivMod.mono)
theorem m29 (k:Nat) (x0:ByteArray) (x1:ByteArray):LeO (FX29 k x0 x1) (FX29 (k+1) x0 x1):=by
 first|exact LeO.refl _|apply All.galoisref01_Gcd.mono| (refine LeO.bind ?_ (fun _=>LeO.refl _);apply All.galoisref01_Gcd.mono)
theorem m31 (k:Nat) (x0:Bool) (x1:ByteArray):LeO (FX31 k x0 x1) (FX31 (k+1) x0 x1):=LeO.refl _
theorem m12 (k:Nat) (x0:TI) (x1:TI):LeO (FX12 k x0 x1) (FX12 (k+1) x0 x1):=by
 show LeO (B12 (FX29 k) (FX30 k) (FX31 k) x0 x1) (B12 (FX29 (k+1)) (FX30 (k+1)) (FX31 (k+1)) x0 x1)
 unfold B12
 with_reducible repeat' first|exact LeO.refl _|exact LeO.none _|apply m29|apply m30|apply m31|refine LeO.ite ?_ ?_|refine LeO.cnd_ ?_ ?_|refine LeO.bind ?_ (fun _=>?_)
theorem m19 (k:Nat) (x0:Int):LeO (FX19 k x0) (FX19 (k+1) x0):=by
 first|exact LeO.refl _|apply All.galoisref02_FromInt.mono| (refine LeO.bind ?_ (fun _=>LeO.refl _);apply All.galoisref02_FromInt.mono)
theorem m26 (k:Nat) (x0:Int) (x1:Int):LeO (FX26 k x0 x1) (FX26 (k+1) x0 x1):=by
 show LeO (B26 (FX12 k) (FX19 k) x0 x1) (B26 (FX12 (k+1)) (FX19 (k+1)) x0 x1)
 unfold B26
 with_reducible repeat' first|exact LeO.refl _|exact LeO.none _|apply m12|apply m19|refine LeO.ite ?_ ?_|refine LeO.cnd_ ?_ ?_|refine LeO.bind ?_ (fun _=>?_)
theorem m9 (k:Nat) (x0:Int) (x1:Int):LeO (FX9 k x0 x1) (FX9 (k+1) x0 x1):=by
 show LeO (B9 (FX26 k) x0 x1) (B9 (FX26 (k+1)) x0 x1)
 unfold B9
 with_reducible repeat' first|exact LeO.refl _|exact LeO.none _|apply m26|refine LeO.ite ?_ ?_|refine LeO.cnd_ ?_ ?_|refine LeO.bind ?_ (fun _=>?_)
theorem m51 (k:Nat) (x0:TQ):LeO (FX51 k x0) (FX51 (k+1) x0):=by
 show LeO (B51 x0) (B51 x0)
 unfold B51
 with_reducible repeat' first|exact LeO.refl _|exact LeO.none _|refine LeO.ite ?_ ?_|refine LeO.cnd_ ?_ ?_|refine LeO.bind ?_ (fun _=>?_)
theorem m22 (k:Nat) (x0:TQ):LeO (FX22 k x0) (FX22 (k+1) x0):=by
 show LeO (B22 (FX51 k) x0) (B22 (FX51 (k+1)) x0)
 unfold B22
 with_reducible repeat' first|exact LeO.refl _|exact LeO.none _|apply m51|refine LeO.ite ?_ ?_|refine LeO.cnd_ ?_ ?_|refine LeO.bind ?_ (fun _=>?_)
theorem m24 (k:Nat) (x0:TI):LeO (FX24 k x0) (FX24 (k+1) x0):=by
 show LeO (B24 x0) (B24 x0)
 unfold B24
 with_reducible repeat' first|exact LeO.refl _|exact LeO.none _|refine LeO.ite ?_ ?_|refine LeO.cnd_ ?_ ?_|refine LeO.bind ?_ (fun _=>?_)
theorem m60 (k:Nat) (x0:TI) (x1:TI):LeO (FX60 k x0 x1) (FX60 (k+1) x0 x1):=by
 first|exact LeO.refl _|apply All.exact_IntAdd.mono| (refine LeO.bind ?_ (fun _=>LeO.refl _);apply All.exact_IntAdd.mono)
theorem m61 (k:Nat) (x0:ByteArray) (x1:ByteArray):LeO (FX61 k x0 x1) (FX61 (k+1) x0 x1):=by
 first|exact LeO.refl _|apply All.exact_NatMul.mono| (refine LeO.bind ?_ (fun _=>LeO.refl _);apply All.exact_NatMul.mono)
theorem m34 (k:Nat) (x0:TQ) (x1:TQ):LeO (FX34 k x0 x1) (FX34 (k+1) x0 x1):=by
 show LeO (B34 (FX23 k) (FX24 k) (FX54 k) (FX60 k) (FX61 k) x0 x1) (B34 (FX23 (k+1)) (FX24 (k+1)) (FX54 (k+1)) (FX60 (k+1)) (FX61 (k+1)) x0 x1)
 unfold B34
 with_reducible repeat' first|exact LeO.refl _|exact LeO.none _|apply m23|apply m24|apply m54|apply m60|apply m61|refine LeO.ite ?_ ?_|refine LeO.cnd_ ?_ ?_|refine LeO.bind ?_ (fun _=>?_)
theorem m33 (k:Nat) (x0:(List TQ)):LeO (FX33 k x0) (FX33 (k+1) x0):=by
 show LeO (B33 (FX34 k) x0) (B33 (FX34 (k+1)) x0)
 unfold B33
 with_reducible repeat' first|exact LeO.refl _|exact LeO.none _|apply m34|refine LeO.ite ?_ ?_|refine LeO.cnd_ ?_ ?_|refine LeO.bind ?_ (fun _=>?_)
theorem m49 (k:Nat) (x0:ByteArray):LeO (FX49 k x0) (FX49 (k+1) x0):=by
 first|exact LeO.refl _|apply All.natural_Check.mono| (refine LeO.bind ?_ (fun _=>LeO.refl _);apply All.natural_Check.mono)
theorem m21 (k:Nat) (x0:TI):LeO (FX21 k x0) (FX21 (k+1) x0):=by
 first|exact LeO.refl _|apply All.integer_Check.mono| (refine LeO.bind ?_ (fun _=>LeO.refl _);apply All.integer_Check.mono)
theorem m35 (k:Nat) (x0:TQ):LeO (FX35 k x0) (FX35 (k+1) x0):=by
 show LeO (B35 (FX21 k) (FX49 k) (FX52 k) x0) (B35 (FX21 (k+1)) (FX49 (k+1)) (FX52 (k+1)) x0)
 unfold B35
 with_reducible repeat' first|exact LeO.refl _|exact LeO.none _|apply m21|apply m49|apply m52|refine LeO.ite ?_ ?_|refine LeO.cnd_ ?_ ?_|refine LeO.bind ?_ (fun _=>?_)
theorem m32Addl:∀k,(∀(x1:(List TQ)) (x11:(List TQ)) (x12:Int) (x13:Int) (x4:TQ),LeO (GX32Addl0 k x1 x11 x12 x13 x4) (GX32Addl0 (k+1) x1 x11 x12 x13 x4))
 |0=>fun _ _ _ _ _ r h=>by simp [GX32Addl0]at h
 |k+1=>by
  have ih0:=m32Addl k
  refine ?_
  ·intro x1 x11 x12 x13 x4
   show LeO (B32Addl0 (GX32Addl0 k) (FX22 k) (FX33 k) (FX35 k) x1 x11 x12 x13 x4) (B32Addl0 (GX32Addl0 (k+1)) (FX22 (k+1)) (FX33 (k+1)) (FX35 (k+1)) x1 x11 x12 x13 x4)
   unfold B32Addl0
   with_reducible repeat' first|apply ih0|exact LeO.refl _|exact LeO.none _|apply m22|apply m33|apply m35|refine LeO.ite ?_ ?_|refine LeO.cnd_ ?_ ?_|refine LeO.bind ?_ (fun _=>?_)
theorem m32Add (k:Nat) (x1:(List TQ)):LeO (FX32Add k x1) (FX32Add (k+1) x1):=by
 have ih0:=(m32Addl k)
 show LeO (B32Add (GX32Addl0 k) x1) (B32Add (GX32Addl0 (k+1)) x1)
 unfold B32Add
 with_reducible repeat' first|apply ih0|exact LeO.refl _|exact LeO.none _|apply m22|apply m33|apply m35|refine LeO.ite ?_ ?_|refine LeO.cnd_ ?_ ?_|refine LeO.bind ?_ (fun _=>?_)
theorem m13 (k:Nat) (x0:TQ) (x1:TQ):LeO (FX13 k x0 x1) (FX13 (k+1) x0 x1):=by
 show LeO (B13 (FX32Add k) x0 x1) (B13 (FX32Add (k+1)) x0 x1)
 unfold B13
 with_reducible repeat' first|exact LeO.refl _|exact LeO.none _|apply m32Add|refine LeO.ite ?_ ?_|refine LeO.cnd_ ?_ ?_|refine LeO.bind ?_ (fun _=>?_)
theorem m36 (k:Nat) (x0:TI):LeO (FX36 k x0) (FX36 (k+1) x0):=by
 show LeO (B36 x0) (B36 x0)
 unfold B36
 with_reducible repeat' first|exact LeO.refl _|exact LeO.none _|refine LeO.ite ?_ ?_|refine LeO.cnd_ ?_ ?_|refine LeO.bind ?_ (fun _=>?_)
theorem m62 (k:Nat) (x0:TI) (x1:TI):LeO (FX62 k x0 x1) (FX62 (k+1) x0 x1):=by
 first|exact LeO.refl _|apply All.exact_IntDivMod.mono| (refine LeO.bind ?_ (fun _=>LeO.refl _);apply All.exact_IntDivMod.mono)
theorem m37 (k:Nat) (x0:TQ):LeO (FX37 k x0) (FX37 (k+1) x0):=by
 show LeO (B37 (FX62 k) x0) (B37 (FX62 (k+1)) x0)
 unfold B37
 with_reducible repeat' first|exact LeO.refl _|exact LeO.none _|apply m62|refine LeO.ite ?_ ?_|refine LeO.cnd_ ?_ ?_|refine LeO.bind ?_ (fun _=>?_)
theorem m14 (k:Nat) (x0:TQ):LeO (FX14 k x0) (FX14 (k+1) x0):=by
 show LeO (B14 (FX35 k) (FX36 k) (FX37 k) x0) (B14 (FX35 (k+1)) (FX36 (k+1)) (FX37 (k+1)) x0)
 unfold B14
 with_reducible repeat' first|exact LeO.refl _|exact LeO.none _|apply m35|apply m36|apply m37|refine LeO.ite ?_ ?_|refine LeO.cnd_ ?_ ?_|refine LeO.bind ?_ (fun _=>?_)
theorem m15 (k:Nat) (x0:TQ):LeO (FX15 k x0) (FX15 (k+1) x0):=by
 show LeO (B15 (FX20 k) (FX34 k) (FX35 k) (FX36 k) (FX37 k) x0) (B15 (FX20 (k+1)) (FX34 (k+1)) (FX35 (k+1)) (FX36 (k+1)) (FX37 (k+1)) x0)
 unfold B15
 with_reducible repeat' first|exact LeO.refl _|exact LeO.none _|apply m20|apply m34|apply m35|apply m36|apply m37|refine LeO.ite ?_ ?_|refine LeO.cnd_ ?_ ?_|refine LeO.bind ?_ (fun _=>?_)
theorem m39 (k:Nat) (x0:TQ):LeO (FX39 k x0) (FX39 (k+1) x0):=by
 show LeO (B39 x0) (B39 x0)
 unfold B39
 with_reducible repeat' first|exact LeO.refl _|exact LeO.none _|refine LeO.ite ?_ ?_|refine LeO.cnd_ ?_ ?_|refine LeO.bind ?_ (fun _=>?_)
theorem m40 (k:Nat) (x0:TQ):LeO (FX40 k x0) (FX40 (k+1) x0):=by
 show LeO (B40 x0) (B40 x0)
 unfold B40
 with_reducible repeat' first|exact LeO.refl _|exact LeO.none _|refine LeO.ite ?_ ?_|refine LeO.cnd_ ?_ ?_|refine LeO.bind ?_ (fun _=>?_)
theorem m63 (k:Nat) (x0:ByteArray):LeO (FX63 k x0) (FX63 (k+1) x0):=LeO.refl _
theorem m41 (k:Nat) (x0:ByteArray) (x1:Int):LeO (FX41 k x0 x1) (FX41 (k+1) x0 x1):=by
 show LeO (B41 (FX63 k) x0 x1) (B41 (FX63 (k+1)) x0 x1)
 unfold B41
 with_reducible repeat' first|exact LeO.refl _|exact LeO.none _|apply m63|refine LeO.ite ?_ ?_|refine LeO.cnd_ ?_ ?_|refine LeO.bind ?_ (fun _=>?_)
theorem m65 (k:Nat) (x0:ByteArray) (x1:Int):LeO (FX65 k x0 x1) (FX65 (k+1) x0 x1):=by
 first|exact LeO.refl _|apply All.exact_NatPow.mono| (refine LeO.bind ?_ (fun _=>LeO.refl _);apply All.exact_NatPow.mono)
theorem m64 (k:Nat) (x0:TI) (x1:Int):LeO (FX64 k x0 x1) (FX64 (k+1) x0 x1):=by
 show LeO (B64 (FX54 k) (FX65 k) x0 x1) (B64 (FX54 (k+1)) (FX65 (k+1)) x0 x1)
 unfold B64
 with_reducible repeat' first|exact LeO.refl _|exact LeO.none _|apply m54|apply m65|refine LeO.ite ?_ ?_|refine LeO.cnd_ ?_ ?_|refine LeO.bind ?_ (fun _=>?_)
theorem m42 (k:Nat) (x0:TQ) (x1:Int):LeO (FX42 k x0 x1) (FX42 (k+1) x0 x1):=by
 show LeO (B42 (FX64 k) (FX65 k) x0 x1) (B42 (FX64 (k+1)) (FX65 (k+1)) x0 x1)
 unfold B42
 with_reducible repeat' first|exact LeO.refl _|exact LeO.none _|apply m64|apply m65|refine LeO.ite ?_ ?_|refine LeO.cnd_ ?_ ?_|refine LeO.bind ?_ (fun _=>?_)
theorem m38 (k:Nat) (x0:(List TQ)) (y500:Int):LeO (FX38 k x0 y500) (FX38 (k+1) x0 y500):=by
 show LeO (B38 (FX39 k) (FX40 k) (FX41 k) (FX42 k) x0 y500) (B38 (FX39 (k+1)) (FX40 (k+1)) (FX41 (k+1)) (FX42 (k+1)) x0 y500)
 unfold B38
 with_reducible repeat' first|exact LeO.refl _|exact LeO.none _|apply m39|apply m40|apply m41|apply m42|refine LeO.ite ?_ ?_|refine LeO.cnd_ ?_ ?_|refine LeO.bind ?_ (fun _=>?_)
theorem m32Powl:∀k,(∀(x1:(List TQ)) (x11:(List TQ)) (x12:Int) (x13:Int) (y100:Int) (x4:TQ),LeO (GX32Powl0 k x1 x11 x12 x13 y100 x4) (GX32Powl0 (k+1) x1 x11 x12 x13 y100 x4))
 |0=>fun _ _ _ _ _ _ r h=>by simp [GX32Powl0]at h
 |k+1=>by
  have ih0:=m32Powl k
  refine ?_
  ·intro x1 x11 x12 x13 y100 x4
   show LeO (B32Powl0 (GX32Powl0 k) (FX22 k) (FX35 k) (FX38 k) x1 x11 x12 x13 y100 x4) (B32Powl0 (GX32Powl0 (k+1)) (FX22 (k+1)) (FX35 (k+1)) (FX38 (k+1)) x1 x11 x12 x13 y100 x4)
   unfold B32Powl0
   with_reducible repeat' first|apply ih0|exact LeO.refl _|exact LeO.none _|apply m22|apply m35|apply m38|refine LeO.ite ?_ ?_|refine LeO.cnd_ ?_ ?_|refine LeO.bind ?_ (fun _=>?_)
theorem m32Pow (k:Nat) (x1:(List TQ)) (y100:Int):LeO (FX32Pow k x1 y100) (FX32Pow (k+1) x1 y100):=by
 have ih0:=(m32Powl k)
 show LeO (B32Pow (GX32Powl0 k) x1 y100) (B32Pow (GX32Powl0 (k+1)) x1 y100)
 unfold B32Pow
 with_reducible repeat' first|apply ih0|exact LeO.refl _|exact LeO.none _|apply m22|apply m35|apply m38|refine LeO.ite ?_ ?_|refine LeO.cnd_ ?_ ?_|refine LeO.bind ?_ (fun _=>?_)
theorem m16 (k:Nat) (x0:TQ) (x1:Int):LeO (FX16 k x0 x1) (FX16 (k+1) x0 x1):=by
 show LeO (B16 (FX32Pow k) x0 x1) (B16 (FX32Pow (k+1)) x0 x1)
 unfold B16
 with_reducible repeat' first|exact LeO.refl _|exact LeO.none _|apply m32Pow|refine LeO.ite ?_ ?_|refine LeO.cnd_ ?_ ?_|refine LeO.bind ?_ (fun _=>?_)
theorem m66 (k:Nat) (x0:TI):LeO (FX66 k x0) (FX66 (k+1) x0):=by
 first|exact LeO.refl _|apply All.exact_IntSqrt.mono| (refine LeO.bind ?_ (fun _=>LeO.refl _);apply All.exact_IntSqrt.mono)
theorem m67 (k:Nat) (x0:Int):LeO (FX67 k x0) (FX67 (k+1) x0):=by
 show LeO (B67 (FX24 k) (FX48 k) x0) (B67 (FX24 (k+1)) (FX48 (k+1)) x0)
 unfold B67
 with_reducible repeat' first|exact LeO.refl _|exact LeO.none _|apply m24|apply m48|refine LeO.ite ?_ ?_|refine LeO.cnd_ ?_ ?_|refine LeO.bind ?_ (fun _=>?_)
theorem m43 (k:Nat) (x0:TQ):LeO (FX43 k x0) (FX43 (k+1) x0):=by
 show LeO (B43 (FX66 k) (FX67 k) x0) (B43 (FX66 (k+1)) (FX67 (k+1)) x0)
 unfold B43
 with_reducible repeat' first|exact LeO.refl _|exact LeO.none _|apply m66|apply m67|refine LeO.ite ?_ ?_|refine LeO.cnd_ ?_ ?_|refine LeO.bind ?_ (fun _=>?_)
theorem m17 (k:Nat) (x0:TQ):LeO (FX17 k x0) (FX17 (k+1) x0):=by
 show LeO (B17 (FX35 k) (FX43 k) x0) (B17 (FX35 (k+1)) (FX43 (k+1)) x0)
 unfold B17
 with_reducible repeat' first|exact LeO.refl _|exact LeO.none _|apply m35|apply m43|refine LeO.ite ?_ ?_|refine LeO.cnd_ ?_ ?_|refine LeO.bind ?_ (fun _=>?_)
theorem m98 (k:Nat) (x0:ByteArray) (x1:Int):LeO (FX98 k x0 x1) (FX98 (k+1) x0 x1):=LeO.refl _
theorem m93 (k:Nat) (x0:ByteArray) (x1:Int):LeO (FX93 k x0 x1) (FX93 (k+1) x0 x1):=by
 show LeO (B93 (FX98 k) x0 x1) (B93 (FX98 (k+1)) x0 x1)
 unfold B93
 with_reducible repeat' first|exact LeO.refl _|exact LeO.none _|apply m98|refine LeO.ite ?_ ?_|refine LeO.cnd_ ?_ ?_|refine LeO.bind ?_ (fun _=>?_)
theorem m82 (k:Nat) (x0:ByteArray) (x1:ByteArray):LeO (FX82 k x0 x1) (FX82 (k+1) x0 x1):=by
 show LeO (B82 (FX93 k) x0 x1) (B82 (FX93 (k+1)) x0 x1)
 unfold B82
 with_reducible repeat' first|exact LeO.refl _|exact LeO.none _|apply m93|refine LeO.ite ?_ ?_|refine LeO.cnd_ ?_ ?_|refine LeO.bind ?_ (fun _=>?_)
theorem m68 (k:Nat) (x0:ByteArray) (x1:ByteArray):LeO (FX68 k x0 x1) (FX68 (k+1) x0 x1):=by
 show LeO (B68 (FX82 k) x0 x1) (B68 (FX82 (k+1)) x0 x1)
 unfold B68
 with_reducible repeat' first|exact LeO.refl _|exact LeO.none _|apply m82|refine LeO.ite ?_ ?_|refine LeO.cnd_ ?_ ?_|refine LeO.bind ?_ (fun _=>?_)
theorem m44 (k:Nat) (x0:ByteArray) (x1:ByteArray):LeO (FX44 k x0 x1) (FX44 (k+1) x0 x1):=by
 show LeO (B44 (FX68 k) x0 x1) (B44 (FX68 (k+1)) x0 x1)
 unfold B44
 with_reducible repeat' first|exact LeO.refl _|exact LeO.none _|apply m68|refine LeO.ite ?_ ?_|refine LeO.cnd_ ?_ ?_|refine LeO.bind ?_ (fun _=>?_)
theorem m46 (k:Nat) (x0:ByteArray):LeO (FX46 k x0) (FX46 (k+1) x0):=by
 first|exact LeO.refl _|apply All.natural_Parse.mono| (refine LeO.bind ?_ (fun _=>LeO.refl _);apply All.natural_Parse.mono)
theorem m45 (k:Nat) (x0:ByteArray):LeO (FX45 k x0) (FX45 (k+1) x0):=by
 first|exact LeO.refl _|apply All.integer_Parse.mono| (refine LeO.bind ?_ (fun _=>LeO.refl _);apply All.integer_Parse.mono)
theorem m18 (k:Nat) (x0:ByteArray):LeO (FX18 k x0) (FX18 (k+1) x0):=by
 show LeO (B18 (FX35 k) (FX44 k) (FX45 k) (FX46 k) x0) (B18 (FX35 (k+1)) (FX44 (k+1)) (FX45 (k+1)) (FX46 (k+1)) x0)
 unfold B18
 with_reducible repeat' first|exact LeO.refl _|exact LeO.none _|apply m35|apply m44|apply m45|apply m46|refine LeO.ite ?_ ?_|refine LeO.cnd_ ?_ ?_|refine LeO.bind ?_ (fun _=>?_)
theorem m4 (k:Nat):LeO (FX4 k) (FX4 (k+1)):=by
 show LeO (B4 (FX5 k) (FX9 k) (FX13 k) (FX14 k) (FX15 k) (FX16 k) (FX17 k) (FX18 k) (FX19 k)) (B4 (FX5 (k+1)) (FX9 (k+1)) (FX13 (k+1)) (FX14 (k+1)) (FX15 (k+1)) (FX16 (k+1)) (FX17 (k+1)) (FX18 (k+1)) (FX19 (k+1)))
 unfold B4
 with_reducible repeat' first|exact LeO.refl _|exact LeO.none _|apply m5|apply m9|apply m13|apply m14|apply m15|apply m16|apply m17|apply m18|apply m19|refine LeO.ite ?_ ?_|refine LeO.cnd_ ?_ ?_|refine LeO.bind ?_ (fun _=>?_)
end Go.Proofs.YtjllholdppjllaaV
namespace Go.Proofs.YtjllholdppjllaaV
open Go Go.RowKit Ytjllholdppjllaa YtjllholdppjllaaE YtjllholdppjllaaW.PrintWords YtjllholdppjllaaW.PrintLast YtjllholdppjllaaW.PrintMore
theorem awake_at:FX4 80=some true:=by kernel_rfl
theorem awake_ev:Ev (fun k=>FX4 k) true:=Ev.of (fun k=>m4 k) awake_at
end Go.Proofs.YtjllholdppjllaaV
set_option maxRecDepth 100000
namespace Go.Proofs.YtjllholdppjllaaV
open Go Go.RowKit Ytjllholdppjllaa YtjllholdppjllaaE YtjllholdppjllaaW.PrintWords YtjllholdppjllaaW.PrintLast YtjllholdppjllaaW.PrintMore
noncomputable abbrev FX3 (k:Nat) (x0:(Int×Int)) (x1:TI) (x2:TI):Option R3:=B3 (FX4 k) (FX5 k) (FX6 k) (FX7 k) (FX8 k) (FX9 k) (FX10 k) (FX11 k) (FX12 k) x0 x1 x2
theorem b3 (k:Nat) (x0:(Int×Int)) (x1:TI) (x2:TI):LeO (FX3 k x0 x1 x2) (B3 (FX4 k) (FX5 k) (FX6 k) (FX7 k) (FX8 k) (FX9 k) (FX10 k) (FX11 k) (FX12 k) x0 x1 x2):=LeO.refl _
theorem ok3 (k:Nat):FeOk Try.prog (fe3 (FX3 k)):=
 fe_ok EOK HM (es:=fun k=>fes3 (FX4 k) (FX5 k) (FX6 k) (FX7 k) (FX8 k) (FX9 k) (FX10 k) (FX11 k) (FX12 k)) (fun k=>fc ⟨ok4 k,fc ⟨ok5 k,fc ⟨ok6 k,fc ⟨ok7 k,fc ⟨ok8 k,fc ⟨ok9 k,fc ⟨ok10 k,fc ⟨ok11 k,fc ⟨ok12 k,List.forall_mem_nil _⟩⟩⟩⟩⟩⟩⟩⟩⟩) (N:=98) (an:=an3) (c:=cd3) (f:=3) (fn:=Try.f3) (rms:=rm3) (ask:=ask3) (rsk:=rsk3) (enc:=enc3) (dec:=dec3) (tbl:=[]) (fun s=>rfl) Try.func3 (by kernel_rfl) (by kernel_rfl) (by kernel_rfl) (fun k=>les3)
  (List.forall_mem_nil _) (fun k s0=> .nil)
  (F:=fun k s=>FX3 k s.1.1 s.1.2.1 s.1.2.2.1) (fun k s r h=>(e3 (FX4 k) (FX5 k) (FX6 k) (FX7 k) (FX8 k) (FX9 k) (FX10 k) (FX11 k) (FX12 k) s).trans (b3 k s.1.1 s.1.2.1 s.1.2.2.1 r h)) k
theorem rep_ii {w:World} {bl:Nat→Blk} {φ:Nat→Addr} {x y:Int}:RepV w bl φ (.a (.v (.ar (.pr (.it .i64) (.it .i64))) (x,y))) (.agg #[.int .i64 x, .int .i64 y]):=⟨[.int .i64 x, .int .i64 y],⟨[.int .i64 x],[.int .i64 y],rfl,rfl,rfl⟩,rfl⟩
theorem calls3 (a0 a1:Int) (b0:Bool) (b1:ByteArray) (c0:Bool) (c1:ByteArray) (h:∃k,FX3 k (a0,a1) (b0,b1) (c0,c1)=some true) (w:World):
  Calls Try.prog 3 #[.agg #[.int .i64 a0, .int .i64 a1], .agg #[.bool b0, .string b1], .agg #[.bool c0, .string c1]] w fun e w'=>e= .returned (.bool true)∧Below w.heap.size w w':=by
 obtain⟨k,hk⟩:=h
 have hc:=ok3 k (((a0,a1),((b0,b1),((c0,c1),()))),()) true hk (.a (.v .bo true)) rfl
 exact calls_of_ct (vs:=[.agg #[.int .i64 a0, .int .i64 a1], .agg #[.bool b0, .string b1], .agg #[.bool c0, .string c1]]) Try.func3 (by kernel_rfl) (c:=cd3) (by kernel_rfl) hc (fun w bl φ=> .cons rep_ii (.cons rep_bs (.cons rep_bs (.nil)))) (fun w bl φ v h=>rep_true h) w
end Go.Proofs.YtjllholdppjllaaV
namespace Go.Proofs.YtjllholdppjllaaN
open Go.Proofs.YtjllholdppjllaaW.PrintWords
def vB (B:Int):List Int→Int
 | []=>0
 |x::xs=>x+B*vB B xs
def Dig (B:Int) (l:List Int):Prop:=∀x,x∈l→0≤x∧x<B
def Trim (l:List Int):Prop:=0<l.length→rd l (l.length-1:Nat)≠0
theorem vB_cons (B x:Int) (xs:List Int):vB B (x::xs)=x+B*vB B xs:=rfl
theorem Dig_nil (B:Int):Dig B []:=fun _ h=>absurd h (List.not_mem_nil)
theorem Dig_cons {B x:Int} {xs:List Int}:Dig B (x::xs)↔(0≤x∧x<B)∧Dig B xs:=by
 constructor
 ·intro h
  exact⟨h x (List.mem_cons_self),fun y hy=>h y (List.mem_cons_of_mem _ hy)⟩
 ·rintro⟨h1,h2⟩ y hy
  rcases List.mem_cons.1 hy with rfl|hy
  ·exact h1
  ·exact h2 y hy
theorem Dig_append {B:Int} {xs ys:List Int} (hx:Dig B xs) (hy:Dig B ys):Dig B (xs++ys):=by
 intro z hz
 rcases List.mem_append.1 hz with h|h
 ·exact hx z h
 ·exact hy z h
theorem Dig_take {B:Int} {xs:List Int} (h:Dig B xs) (n:Nat):Dig B (xs.take n):=fun z hz=>h z (List.mem_of_mem_take hz)
theorem Dig_drop {B:Int} {xs:List Int} (h:Dig B xs) (n:Nat):Dig B (xs.drop n):=fun z hz=>h z (List.mem_of_mem_drop hz)
theorem Dig_set {B:Int} {xs:List Int} (h:Dig B xs) (n:Nat) {v:Int} (h0:0≤v) (h1:v<B):Dig B (xs.set n v):=by
 intro z hz
 rcases List.mem_or_eq_of_mem_set hz with hz|rfl
 ·exact h z hz
 ·exact⟨h0,h1⟩
theorem Dig_replicate {B:Int} (hB:0<B) (n:Nat):Dig B (List.replicate n 0):=by
 intro z hz
 rw [List.eq_of_mem_replicate hz]
 exact⟨Int.le_refl _,hB⟩
theorem Dig_reverse {B:Int} {xs:List Int} (h:Dig B xs):Dig B xs.reverse:=fun z hz=>h z (List.mem_reverse.1 hz)
theorem rd_nat (xs:List Int) (n:Nat):rd xs (n:Int)=xs.getD n 0:=by simp [rd]
theorem rd_get (xs:List Int) (n:Nat) (h:n<xs.length):rd xs (n:Int)=xs[n]:=by
 rw [rd_nat,List.getD_eq_getElem?_getD,List.getElem?_eq_getElem h]
 rfl
theorem Dig_rd {B:Int} {xs:List Int} (h:Dig B xs) (n:Nat) (hn:n<xs.length):0≤rd xs (n:Int)∧rd xs (n:Int)<B:=by
 rw [rd_get xs n hn]
 exact h _ (List.getElem_mem hn)
theorem vB_append (B:Int) (xs ys:List Int):vB B (xs++ys)=vB B xs+B^xs.length*vB B ys:=by
 induction xs with
 |nil=>simp [vB]
 |cons x xs ih=>
  rw [List.cons_append,vB_cons,ih,vB_cons,List.length_cons,Int.pow_succ,Int.mul_add,←Int.add_assoc,←Int.mul_assoc,Int.mul_comm B (B^xs.length)]
theorem vB_replicate (B:Int) (n:Nat):vB B (List.replicate n 0)=0:=by
 induction n with
 |zero=>rfl
 |succ n ih=>rw [List.replicate_succ,vB_cons,ih];simp
theorem vB_nonneg {B:Int} (hB:0≤B) {l:List Int} (h:Dig B l):0≤vB B l:=by
 induction l with
 |nil=>exact Int.le_refl _
 |cons x xs ih=>
  have:=Dig_cons.1 h
  rw [vB_cons]
  exact Int.add_nonneg this.1.1 (Int.mul_nonneg hB (ih this.2))
theorem vB_lt {B:Int} (hB:0<B) {l:List Int} (h:Dig B l):vB B l<B^l.length:=by
 induction l with
 |nil=>simp [vB]
 |cons x xs ih=>
  have hd:=Dig_cons.1 h
  have h1:=ih hd.2
  rw [vB_cons,List.length_cons,Int.pow_succ,Int.mul_comm (B^xs.length) B]
  have h2:B*(vB B xs+1)≤B*B^xs.length:=Int.mul_le_mul_of_nonneg_left (by omega) (by omega)
  rw [Int.mul_add,Int.mul_one]at h2
  omega
theorem vB_split (B:Int) (l:List Int) (n:Nat) (h:n≤l.length):vB B l=vB B (l.take n)+B^n*vB B (l.drop n):=by
 conv=>lhs;rw [←List.take_append_drop n l]
 rw [vB_append,List.length_take,Nat.min_eq_left h]
theorem vB_take_succ (B:Int) (l:List Int) (n:Nat) (h:n<l.length):vB B (l.take (n+1))=vB B (l.take n)+B^n*rd l (n:Int):=by
 rw [List.take_succ_eq_append_getElem h,vB_append,List.length_take,Nat.min_eq_left (by omega),rd_get l n h]
 simp [vB]
theorem vB_set (B:Int) (l:List Int) (n:Nat) (v:Int) (h:n<l.length):vB B (l.set n v)=vB B l+B^n*(v-rd l (n:Int)):=by
 induction l generalizing n with
 |nil=>simp at h
 |cons x xs ih=>
  cases n with
  |zero=>simp [vB,rd];omega
  |succ n=>
   have h':n<xs.length:=by simpa using h
   rw [List.set_cons_succ,vB_cons,ih n h',vB_cons]
   have:rd (x::xs) ((n+1:Nat):Int)=rd xs (n:Int):=by rw [rd_nat,rd_nat];simp
   rw [this,Int.pow_succ,Int.mul_add,←Int.add_assoc,←Int.mul_assoc,Int.mul_comm B (B^n)]
theorem set_eq (l:List Int) (n:Nat) (h:n<l.length):l.set n (rd l (n:Int))=l:=by
 rw [rd_get l n h,List.set_getElem_self]
theorem rd_set_self (l:List Int) (n:Nat) (v:Int) (h:n<l.length):rd (l.set n v) (n:Int)=v:=by
 rw [rd_get _ n (by simpa using h),List.getElem_set_self]
theorem rd_set_ne (l:List Int) (n m:Nat) (v:Int) (h:n≠m):rd (l.set n v) (m:Int)=rd l (m:Int):=by
 rw [rd_nat,rd_nat,List.getD_eq_getElem?_getD,List.getD_eq_getElem?_getD,List.getElem?_set_ne h]
theorem rd_take (xs:List Int) (n m:Nat) (h:m<n):rd (xs.take n) (m:Int)=rd xs (m:Int):=by
 rw [rd_nat,rd_nat,List.getD_eq_getElem?_getD,List.getD_eq_getElem?_getD,List.getElem?_take_of_lt h]
theorem rd_drop (xs:List Int) (n m:Nat):rd (xs.drop n) (m:Int)=rd xs ((n+m:Nat):Int):=by
 rw [rd_nat,rd_nat,List.getD_eq_getElem?_getD,List.getD_eq_getElem?_getD,List.getElem?_drop]
theorem rd_replicate (n m:Nat):rd (List.replicate n 0) (m:Int)=0:=by
 rw [rd_nat,List.getD_eq_getElem?_getD,List.getElem?_replicate]
 split<;>rfl
theorem dig_inj {B:Int} (hB:0<B):∀{l m:List Int},Dig B l→Dig B m→l.length=m.length→vB B l=vB B m→l=m
 | [],[],_,_,_,_=>rfl
 | [],y::ys,_,_,h,_=>by simp at h
 |x::xs,[],_,_,h,_=>by simp at h
 |x::xs,y::ys,hl,hm,h,hv=>by
  have h1:=Dig_cons.1 hl
  have h2:=Dig_cons.1 hm
  rw [vB_cons,vB_cons]at hv
  have hx:x=y:=by
   have e1:(x+B*vB B xs)%B=x:=by rw [Int.add_mul_emod_self_left,Int.emod_eq_of_lt h1.1.1 h1.1.2]
   have e2:(y+B*vB B ys)%B=y:=by rw [Int.add_mul_emod_self_left,Int.emod_eq_of_lt h2.1.1 h2.1.2]
   rw [←e1,←e2,hv]
  subst hx
  have hv':B*vB B xs=B*vB B ys:=by omega
  have:=Int.eq_of_mul_eq_mul_left (by omega) hv'
  rw [dig_inj hB h1.2 h2.2 (by simpa using h) this]
theorem trim_le {B:Int} (hB:0<B) {l:List Int} (h:Dig B l) (ht:Trim l) (hp:0<l.length):B^(l.length-1)≤vB B l:=by
 have e:l.take (l.length-1+1)=l:=List.take_of_length_le (by omega)
 have h1:=vB_take_succ B l (l.length-1) (by omega)
 rw [e]at h1
 rw [h1]
 have h2:=vB_nonneg (Int.le_of_lt hB) (Dig_take h (l.length-1))
 have h3:=(Dig_rd h (l.length-1) (by omega)).1
 have h4:1≤rd l ((l.length-1:Nat):Int):=by have:=ht hp;omega
 have h5:B^(l.length-1)*1≤B^(l.length-1)*rd l ((l.length-1:Nat):Int):=Int.mul_le_mul_of_nonneg_left h4 (Int.le_of_lt (Int.pow_pos hB))
 rw [Int.mul_one]at h5
 omega
theorem pow_le_pow {B:Int} (hB:0<B) {m n:Nat} (h:m≤n):B^m≤B^n:=by
 obtain⟨j,rfl⟩:∃j,n=m+j:=⟨n-m,by omega⟩
 rw [Int.pow_add]
 have h1:1≤B^j:=by have:0<B^j:=Int.pow_pos hB;omega
 have h2:B^m*1≤B^m*B^j:=Int.mul_le_mul_of_nonneg_left h1 (Int.le_of_lt (Int.pow_pos hB))
 rwa [Int.mul_one]at h2
theorem trim_len {B:Int} (hB:0<B) {l m:List Int} (hl:Dig B l) (hm:Dig B m) (ht:Trim m) (h:l.length<m.length):vB B l<vB B m:=by
 have h1:=vB_lt hB hl
 have h2:=trim_le hB hm ht (by omega)
 have h3:=pow_le_pow hB (show l.length≤m.length-1 by omega)
 omega
theorem trim_inj {B:Int} (hB:0<B) {l m:List Int} (hl:Dig B l) (hm:Dig B m) (tl:Trim l) (tm:Trim m) (hv:vB B l=vB B m):l=m:=by
 rcases Nat.lt_trichotomy l.length m.length with h|h|h
 ·have:=trim_len hB hl hm tm h;omega
 ·exact dig_inj hB hl hm h hv
 ·have:=trim_len hB hm hl tl h;omega
def dgs (b:Nat) (n:Nat):List Int:=
 if h:n=0 then []else((n%(b+2):Nat):Int)::dgs b (n/(b+2))
termination_by n
decreasing_by exact Nat.div_lt_self (by omega) (by omega)
theorem dgs_zero (b:Nat):dgs b 0=[]:=by rw [dgs];simp
theorem dgs_pos (b n:Nat) (h:n≠0):dgs b n=((n%(b+2):Nat):Int)::dgs b (n/(b+2)):=by rw [dgs];simp [h]
theorem dgs_spec (b:Nat):∀n,Dig (b+2:Nat) (dgs b n)∧Trim (dgs b n)∧vB (b+2:Nat) (dgs b n)=n:=by
 intro n
 induction n using Nat.strongRecOn with
 |_ n ih=>
  by_cases h:n=0
  ·subst h
   rw [dgs_zero]
   exact⟨Dig_nil _,fun h=>absurd h (by simp),rfl⟩
  ·obtain⟨h1,h2,h3⟩:=ih (n/(b+2)) (Nat.div_lt_self (by omega) (by omega))
   rw [dgs_pos b n h]
   have hm:=Nat.mod_lt n (show 0<b+2 by omega)
   have hd:=Nat.div_add_mod n (b+2)
   refine⟨Dig_cons.2 ⟨⟨by omega,by omega⟩,h1⟩,?_,?_⟩
   ·intro _
    by_cases hz:n/(b+2)=0
    ·rw [hz,dgs_zero]
     show rd [((n%(b+2):Nat):Int)] ((0:Nat):Int)≠0
     rw [hz]at hd
     have:((n%(b+2):Nat):Int)≠0:=by omega
     simpa [rd]using this
    ·have hl:0<(dgs b (n/(b+2))).length:=by rw [dgs_pos _ _ hz];simp
     have:=h2 hl
     rw [List.length_cons,Nat.add_sub_cancel]
     obtain⟨q,hq⟩:∃q,(dgs b (n/(b+2))).length=q+1:=⟨(dgs b (n/(b+2))).length-1,by omega⟩
     rw [hq]at this⊢
     rw [rd_nat]at this⊢
     simpa using this
   ·rw [vB_cons,h3]
    have:((b+2:Nat):Int)*((n/(b+2):Nat):Int)+((n%(b+2):Nat):Int)=n:=by exact_mod_cast hd
    omega
theorem dgs_unique {b:Nat} {l:List Int} {n:Nat} (hl:Dig (b+2:Nat) l) (ht:Trim l) (hv:vB (b+2:Nat) l=n):l=dgs b n:=by
 obtain⟨h1,h2,h3⟩:=dgs_spec b n
 exact trim_inj (by omega) hl h1 ht h2 (by rw [hv,h3])
theorem dgs_len {b n k:Nat} (h:n<(b+2)^k):(dgs b n).length≤k:=by
 obtain⟨h1,h2,h3⟩:=dgs_spec b n
 rcases Nat.lt_or_ge k (dgs b n).length with hk|hk
 ·have h4:=trim_le (by omega) h1 h2 (by omega)
  rw [h3]at h4
  have h5:=pow_le_pow (B:=((b+2:Nat):Int)) (by omega) (show k≤(dgs b n).length-1 by omega)
  have h6:((n:Nat):Int)<((b+2:Nat):Int)^k:=by exact_mod_cast h
  omega
 ·exact hk
theorem dgs_lt (b n:Nat):n<(b+2)^(dgs b n).length:=by
 obtain⟨h1,h2,h3⟩:=dgs_spec b n
 have:=vB_lt (by omega) h1
 rw [h3]at this
 exact_mod_cast this
end Go.Proofs.YtjllholdppjllaaN
namespace Go.Proofs.YtjllholdppjllaaN
open Go.RowKit Go.Proofs.Ytjllholdppjllaa.All Go.Proofs.YtjllholdppjllaaW.PrintWords Go.Proofs.YtjllholdppjllaaW.PrintLast Go.Proofs.YtjllholdppjllaaW.PrintMore
theorem w64 {x:Int} (h0: -9223372036854775808≤x) (h1:x<9223372036854775808):wrap64 x=x:=by unfold wrap64;omega
theorem u64 {x:Int} (h0:0≤x) (h1:x<18446744073709551616):IntKind.u64.wrap x=x:=by
 simp [IntKind.wrap,IntKind.bits,IntKind.signed]
 omega
theorem u64_mod (x:Int):IntKind.u64.wrap x=x%18446744073709551616:=by simp [IntKind.wrap,IntKind.bits,IntKind.signed]
abbrev B64:Int:=18446744073709551616
def d64 (n:Nat):List Int:=dgs 18446744073709551614 n
theorem d64_dig (n:Nat):Dig B64 (d64 n):=(dgs_spec 18446744073709551614 n).1
theorem d64_trim (n:Nat):Trim (d64 n):=(dgs_spec 18446744073709551614 n).2.1
theorem d64_val (n:Nat):vB B64 (d64 n)=n:=(dgs_spec 18446744073709551614 n).2.2
theorem d64_unique {l:List Int} {n:Nat} (hl:Dig B64 l) (ht:Trim l) (hv:vB B64 l=n):l=d64 n:=dgs_unique hl ht hv
theorem d64_zero:d64 0=[]:=dgs_zero _
def d8 (n:Nat):List Int:=dgs 254 n
theorem d8_dig (n:Nat):Dig 256 (d8 n):=(dgs_spec 254 n).1
theorem d8_trim (n:Nat):Trim (d8 n):=(dgs_spec 254 n).2.1
theorem d8_val (n:Nat):vB 256 (d8 n)=n:=(dgs_spec 254 n).2.2
theorem d8_unique {l:List Int} {n:Nat} (hl:Dig 256 l) (ht:Trim l) (hv:vB 256 l=n):l=d8 n:=dgs_unique hl ht hv
def nat (n:Nat):ByteArray:=strOfNums (d8 n).reverse
theorem bytesOf_str {l:List Int} (h:Dig 256 l):bytesOf (strOfNums l)=l:=by
 unfold bytesOf
 rw [strOfNums_data,List.map_map]
 conv=>rhs;rw [←List.map_id l]
 refine List.map_congr_left fun x hx=>?_
 have:=h x hx
 simp [UInt8.toNat_ofNat']
 omega
theorem str_bytesOf (s:ByteArray):strOfNums (bytesOf s)=s:=by
 unfold strOfNums bytesOf
 rw [List.map_map]
 have:List.map ((fun n:Int=>UInt8.ofNat n.toNat)∘fun b:UInt8=>(b.toNat:Int)) s.data.toList=s.data.toList:=by
  conv=>rhs;rw [←List.map_id s.data.toList]
  refine List.map_congr_left fun x _=>?_
  simp
 rw [this]
theorem bytesOf_dig (s:ByteArray):Dig 256 (bytesOf s):=by
 intro x hx
 unfold bytesOf at hx
 obtain⟨b,_,rfl⟩:=List.mem_map.1 hx
 have:=b.toNat_lt
 omega
theorem str_ext {s t:ByteArray} (h:bytesOf s=bytesOf t):s=t:=by rw [←str_bytesOf s,h,str_bytesOf]
theorem toList_nil {s:ByteArray}:s.toList=[]↔s.size=0:=by
 rw [ByteArray.toList_eq,←List.length_eq_zero_iff,data_length]
theorem nat_bytes (n:Nat):bytesOf (nat n)=(d8 n).reverse:=bytesOf_str (Dig_reverse (d8_dig n))
theorem nat_size (n:Nat):(nat n).size=(d8 n).length:=by rw [←bytesOf_length,nat_bytes,List.length_reverse]
def bval (s:ByteArray):Int:=vB 256 (bytesOf s).reverse
theorem bval_nat (n:Nat):bval (nat n)=n:=by unfold bval;rw [nat_bytes,List.reverse_reverse,d8_val]
theorem bval_nonneg (s:ByteArray):0≤bval s:=vB_nonneg (by decide) (Dig_reverse (bytesOf_dig s))
theorem nat_inj {m n:Nat}:nat m=nat n↔m=n:=by
 constructor
 ·intro h
  have:=bval_nat m
  rw [h,bval_nat]at this
  omega
 ·rintro rfl;rfl
theorem rd_reverse (l:List Int) (n:Nat) (h:n<l.length):rd l.reverse (n:Int)=rd l ((l.length-1-n:Nat):Int):=by
 rw [rd_get _ n (by simpa using h),rd_get _ _ (by omega),List.getElem_reverse]
theorem bt_rd (s:ByteArray) (i:Int):bt s i=rd (bytesOf s) i:=(rd_bytesOf s i).symm
theorem wf_nat {s:ByteArray} (h:s.size=0∨bt s 0≠0):s=nat (bval s).toNat:=by
 apply str_ext
 rw [nat_bytes]
 have ht:Trim (bytesOf s).reverse:=by
  intro hp
  rw [List.length_reverse]at hp⊢
  rw [rd_reverse _ _ (by omega),bt_rd]at*
  rw [bytesOf_length]at hp
  have e:(bytesOf s).length-1-((bytesOf s).length-1)=0:=by omega
  rw [e]
  rcases h with h|h
  ·omega
  ·exact h
 have:=d8_unique (n:=(bval s).toNat) (Dig_reverse (bytesOf_dig s)) ht (by have:=bval_nonneg s;unfold bval at this⊢;omega)
 rw [←this,List.reverse_reverse]
theorem nat_wf (n:Nat):(nat n).size=0∨bt (nat n) 0≠0:=by
 rcases Nat.eq_zero_or_pos (d8 n).length with h|h
 ·left;rw [nat_size,h]
 ·right
  rw [bt_rd,nat_bytes]
  have:=d8_trim n h
  have e:=rd_reverse (d8 n) 0 (by omega)
  rw [show(d8 n).length-1-0=(d8 n).length-1 by omega]at e
  rw [←e]at this
  exact this
theorem nat_zero:nat 0=⟨#[]⟩:=by unfold nat d8;rw [dgs_zero];rfl
theorem nat_size_zero {n:Nat}:(nat n).size=0↔n=0:=by
 constructor
 ·intro h
  rw [nat_size]at h
  have:=d8_val n
  rw [List.eq_nil_of_length_eq_zero h]at this
  simp [vB]at this
  omega
 ·rintro rfl;rw [nat_zero];rfl
theorem nat_size_le {n k:Nat}:(nat n).size≤k↔n<256^k:=by
 rw [nat_size]
 constructor
 ·intro h
  exact Nat.lt_of_lt_of_le (dgs_lt 254 n) (Nat.pow_le_pow_right (by decide) h)
 ·intro h
  exact dgs_len h
theorem nat_lt_size (n:Nat):n<256^(nat n).size:=nat_size_le.1 (Nat.le_refl _)
theorem vB_zero (B:Int):∀{l:List Int},(∀j:Nat,j<l.length→rd l (j:Int)=0)→vB B l=0
 | [],_=>rfl
 |x::xs,h=>by
  have h0:x=0:=h 0 (by simp)
  have:=vB_zero B (l:=xs) (fun j hj=>by
   have:=h (j+1) (by simpa using hj)
   rw [rd_nat]at this⊢
   simpa using this)
  rw [vB_cons,h0,this]
  simp
theorem vB_low (B:Int) {l:List Int} {n:Nat} (hn:n≤l.length) (h:∀j:Nat,n≤j→j<l.length→rd l (j:Int)=0):vB B l=vB B (l.take n):=by
 rw [vB_split B l n hn,vB_zero B (l:=l.drop n) (fun j hj=>by rw [rd_drop];exact h _ (by omega) (by simp at hj;omega))]
 simp
theorem trim_l0 (l:List Int) (hd:Dig B64 l) (hl:l.length<9223372036854775808):∀n:Nat,n≤l.length→(∀j:Nat,n≤j→j<l.length→rd l (j:Int)=0)→Ev (fun k=>exact_trim.l0 k l (n:Int)) (d64 (vB B64 l).toNat):=by
 have hv:=vB_nonneg (by decide) hd
 intro n
 induction n with
 |zero=>
  intro hn h
  refine Ev.step (f:=fun _=>some (d64 (vB B64 l).toNat)) (fun k=>?_) (Ev.now _)
  simp only [exact_trim.l0]
  rw [if_neg (by omega),if_pos (by omega),if_pos (by omega)]
  have:=vB_low B64 hn h
  rw [this]
  simp [vB,d64_zero]
 |succ n ih=>
  intro hn h
  have e1:wrap64 (((n+1:Nat):Int)-1)=(n:Int):=by rw [w64 (by omega) (by omega)];omega
  by_cases hz:rd l (n:Int)=0
  ·refine Ev.step (f:=fun k=>exact_trim.l0 k l (n:Int)) (fun k=>?_) (ih (by omega) (fun j hj hjl=>?_))
   ·simp only [exact_trim.l0,e1]
    rw [if_pos (by omega),if_pos (by omega),if_pos (by omega),if_pos hz]
   ·rcases Nat.lt_or_ge n j with hlt|hge
    ·exact h j hlt hjl
    ·have:j=n:=by omega
     subst this
     exact hz
  ·refine Ev.step (f:=fun _=>some (d64 (vB B64 l).toNat)) (fun k=>?_) (Ev.now _)
   simp only [exact_trim.l0,e1]
   rw [if_pos (by omega),if_pos (by omega),if_pos (by omega),if_neg hz,if_pos (by omega),if_pos (by omega)]
   congr 1
   have hlen:(l.take (n+1)).length=n+1:=by rw [List.length_take];omega
   refine d64_unique (Dig_take hd _) (fun _=>?_) ?_
   ·rw [Int.toNat_natCast,hlen,Nat.add_sub_cancel,rd_take l _ _ (by omega)]
    exact hz
   ·rw [Int.toNat_natCast,←vB_low B64 hn h]
    omega
theorem trim_ev {l:List Int} (hd:Dig B64 l) (hl:l.length<9223372036854775808):Ev (fun k=>exact_trim.f k l) (d64 (vB B64 l).toNat):=
 trim_l0 l hd hl l.length (Nat.le_refl _) (fun j h1 h2=>absurd h1 (by omega))
theorem wraps_u64 (n:Int) (h0:0≤n) (h1:n<2^64):IntKind.u64.wrap n=n:=u64 h0 (by simpa using h1)
theorem pow8 (q r:Nat):(B64:Int)^q*256^r=256^(8*q+r):=by
 have e:(256:Int)^8=B64:=rfl
 rw [Int.pow_add,Int.pow_mul,e]
theorem high_succ (s:ByteArray) (i:Nat) (h:i<s.size):vB 256 ((bytesOf s).take (i+1)).reverse=bt s i+256*vB 256 ((bytesOf s).take i).reverse:=by
 rw [List.take_succ_eq_append_getElem (by rw [bytesOf_length];exact h),List.reverse_append,bt_rd,rd_get _ i (by rw [bytesOf_length];exact h)]
 rfl
theorem high_all (s:ByteArray):vB 256 ((bytesOf s).take s.size).reverse=bval s:=by
 rw [List.take_of_length_le (by rw [bytesOf_length];exact Nat.le_refl _)]
 rfl
theorem word_or (x c:Int) (r:Nat) (hr:r<8) (hx0:0≤x) (hx1:x<B64) (hm:x%256^(r+1)=0) (hc0:0≤c) (hc1:c≤255):
  Go.bits .or .u64 x (shl .u64 (IntKind.u64.wrap c) (8*r:Nat))=x+c*256^r∧0≤x+c*256^r∧x+c*256^r<B64∧(x+c*256^r)%256^r=0:=by
 have h64:(B64:Int)=18446744073709551616:=rfl
 have hs:shl .u64 (IntKind.u64.wrap c) (8*r:Nat)=c*256^r:=by
  unfold shl
  rw [u64 hc0 (by omega),Int.toNat_natCast]
  have:min (8*r) IntKind.u64.bits=8*r:=Nat.min_eq_left (by show 8*r≤64;omega)
  rw [this,Int.pow_mul]
  have e:(2:Int)^8=256:=rfl
  rw [e]
  apply u64
  ·exact Int.mul_nonneg hc0 (Int.le_of_lt (Int.pow_pos (by decide)))
  ·have:r=0∨r=1∨r=2∨r=3∨r=4∨r=5∨r=6∨r=7:=by omega
   rcases this with rfl|rfl|rfl|rfl|rfl|rfl|rfl|rfl<;>omega
 rw [hs]
 have hb:0≤c*256^r∧c*256^r<256^(r+1)∧0≤x+c*256^r∧x+c*256^r<B64∧(x+c*256^r)%256^r=0∧c*256^r<2^64:=by
  have:r=0∨r=1∨r=2∨r=3∨r=4∨r=5∨r=6∨r=7:=by omega
  rcases this with rfl|rfl|rfl|rfl|rfl|rfl|rfl|rfl<;>(clear hs;simp only [B64]at hx1⊢;omega)
 refine⟨?_,hb.2.2.1,hb.2.2.2.1,hb.2.2.2.2.1⟩
 have hp:(2:Int)^(8*(r+1))=256^(r+1):=by rw [Int.pow_mul];rfl
 exact bits_join .u64 64 (by decide) wraps_u64 (8*(r+1)) x (c*256^r) hx0 (by rw [hp];exact hm) (by rw [h64]at hx1;simpa using hx1) hb.1 (by rw [hp];exact hb.2.1) hb.2.2.2.2.2
theorem words_l0 (s:ByteArray) (hs:s.size≤1099511627776):∀(d i:Nat) (w:List Int),i+d=s.size→w.length=(s.size+7)/8→Dig B64 w→vB B64 w=vB 256 ((bytesOf s).take i).reverse*256^d→
  (0<d→rd w ((d-1)/8:Nat)%256^((d-1)%8+1)=0∧∀q:Nat,q<(d-1)/8→rd w (q:Int)=0)→Ev (fun k=>exact_words.l0 k s w (s.size:Int) (i:Int)) (d64 (bval s).toNat):=by
 intro d
 induction d with
 |zero=>
  intro i w hi hl hd hv _
  have hi:i=s.size:=by omega
  subst hi
  have hv':vB B64 w=bval s:=by rw [hv,high_all];simp
  refine Ev.step (f:=fun k=>(exact_trim.f k w).bind fun t=>some t) (fun k=>?_) (Ev.bind (trim_ev hd (by omega)) ?_)
  ·simp only [exact_words.l0]
   rw [if_neg (by omega)]
  ·rw [hv']
   exact Ev.now _
 |succ d ih=>
  intro i w hi hl hd hv hz
  obtain⟨hz1,hz2⟩:=hz (by omega)
  rw [Nat.add_sub_cancel]at hz1 hz2
  have hq:d/8<w.length:=by omega
  have hr:d%8<8:=Nat.mod_lt _ (by decide)
  have e1:wrap64 (Int.tdiv (wrap64 (wrap64 ((s.size:Int)-1)-(i:Int))) 8)=((d/8:Nat):Int):=by
   rw [w64 (x:=(s.size:Int)-1) (by omega) (by omega),w64 (x:=(s.size:Int)-1-(i:Int)) (by omega) (by omega)]
   have:(s.size:Int)-1-(i:Int)=(d:Int):=by omega
   rw [this,Int.tdiv_eq_ediv_of_nonneg (by omega),w64 (by omega) (by omega)]
   omega
  have e2:wrap64 (8*Int.tmod (wrap64 (wrap64 ((s.size:Int)-1)-(i:Int))) 8)=((8*(d%8):Nat):Int):=by
   rw [w64 (x:=(s.size:Int)-1) (by omega) (by omega),w64 (x:=(s.size:Int)-1-(i:Int)) (by omega) (by omega)]
   have:(s.size:Int)-1-(i:Int)=(d:Int):=by omega
   rw [this,Int.tmod_eq_emod_of_nonneg (by omega),w64 (by omega) (by omega)]
   omega
  have e3:wrap64 ((i:Int)+1)=((i+1:Nat):Int):=by rw [w64 (by omega) (by omega)];omega
  have c1:(i:Int)<(s.size:Int):=by omega
  have c3:((d/8:Nat):Int)<(w.length:Int):=Int.ofNat_lt.2 hq
  have c4:0<(d/8:Nat)→d%8=0→(d-1)/8=d/8-1:=by omega
  have hi':i+1+d=s.size:=by omega
  obtain⟨hx0,hx1⟩:=Dig_rd hd (d/8) hq
  obtain⟨hc0,hc1⟩:=bt_range s (i:Int)
  obtain⟨ho,ho0,ho1,ho2⟩:=word_or (rd w ((d/8:Nat):Int)) (bt s (i:Int)) (d%8) hr hx0 hx1 hz1 hc0 hc1
  have hk:8*(d/8)+d%8=d:=Nat.div_add_mod d 8
  refine Ev.step (f:=fun k=>exact_words.l0 k s (w.set (d/8) (rd w ((d/8:Nat):Int)+bt s (i:Int)*256^(d%8))) (s.size:Int) ((i+1:Nat):Int)) (fun k=>?_) (ih (i+1) _ hi' (by rw [List.length_set];exact hl) (Dig_set hd _ ho0 ho1) ?_ ?_)
  ·simp only [exact_words.l0,e1,e2,e3]
   rw [if_pos c1,if_pos (Int.natCast_nonneg _),if_pos c3,if_pos (Int.natCast_nonneg _),if_pos c1,if_pos (Int.natCast_nonneg _),ho,Int.toNat_natCast]
  ·rw [vB_set _ _ _ _ hq,hv,high_succ s i (by omega)]
   have e:rd w ((d/8:Nat):Int)+bt s (i:Int)*256^(d%8)-rd w ((d/8:Nat):Int)=256^(d%8)*bt s (i:Int):=by
    rw [Int.mul_comm (256^(d%8))];omega
   rw [e,←Int.mul_assoc,pow8,hk,Int.pow_succ,Int.add_mul]
   generalize vB 256 ((bytesOf s).take i).reverse=H
   generalize(256:Int)^d=P
   generalize bt s (i:Int)=c
   rw [Int.mul_comm P c,Int.add_comm,Int.mul_assoc 256 H P,Int.mul_comm P 256,←Int.mul_assoc H 256 P,Int.mul_comm H 256,Int.mul_assoc 256 H P]
  ·intro hd0
   by_cases h0:d%8=0
   ·have h1:(d-1)/8=d/8-1:=by omega
    have h2:0<d/8:=by omega
    rw [h1]
    refine⟨?_,fun q hq'=>?_⟩
    ·rw [rd_set_ne _ _ _ _ (by omega),hz2 _ (by omega)]
     simp
    ·rw [rd_set_ne _ _ _ _ (by omega),hz2 _ (by omega)]
   ·have h1:(d-1)/8=d/8:=by omega
    have h2:(d-1)%8+1=d%8:=by omega
    rw [h1,h2]
    refine⟨?_,fun q hq'=>?_⟩
    ·rw [rd_set_self _ _ _ hq]
     exact ho2
    ·rw [rd_set_ne _ _ _ _ (by omega),hz2 _ (by omega)]
theorem words_ev (s:ByteArray) (hs:s.size≤1099511627776):Ev (fun k=>exact_words.f k s) (d64 (bval s).toNat):=by
 have e1:wrap64 (Int.tdiv (wrap64 ((s.size:Int)+7)) 8)=(((s.size+7)/8:Nat):Int):=by
  rw [w64 (x:=(s.size:Int)+7) (by omega) (by omega),Int.tdiv_eq_ediv_of_nonneg (by omega),w64 (by omega) (by omega)]
  omega
 refine Ev.congr (f:=fun k=>exact_words.l0 k s (List.replicate ((s.size+7)/8) 0) (s.size:Int) ((0:Nat):Int)) (fun k=>?_) (words_l0 s hs s.size 0 _ (by omega) (by simp) (Dig_replicate (by decide) _) ?_ ?_)
 ·unfold exact_words.f
  rw [e1,if_pos (by omega),Int.toNat_natCast,if_pos (by omega)]
  rfl
 ·rw [vB_replicate]
  simp [vB]
 ·intro _
  exact⟨by rw [rd_replicate];simp,fun q _=>rd_replicate _ _⟩
theorem words_nat {n:Nat} (hs:(nat n).size≤1099511627776):Ev (fun k=>exact_words.f k (nat n)) (d64 n):=by
 have:=words_ev (nat n) hs
 rwa [bval_nat,Int.toNat_natCast]at this
theorem set_reverse (l:List Int) (p:Nat) (v:Int) (h:p<l.length):(l.set p v).reverse=l.reverse.set (l.length-1-p) v:=by
 apply List.ext_getElem?
 intro j
 rcases Nat.lt_or_ge j l.length with hj|hj
 ·rw [List.getElem?_reverse (by rw [List.length_set];exact hj),List.length_set,List.getElem?_set,List.getElem?_set,List.length_reverse]
  by_cases e:p=l.length-1-j
  ·have e':l.length-1-p=j:=by omega
   rw [if_pos e,if_pos h,if_pos e',if_pos (by omega)]
  ·have e':¬l.length-1-p=j:=by omega
   rw [if_neg e,if_neg e',List.getElem?_reverse hj]
 ·rw [List.getElem?_eq_none (by simp;omega),List.getElem?_eq_none (by simp;omega)]
theorem pack_l2 (b:List Int) (hd:Dig 256 b) (hb:b.length<9223372036854775807) (n:Nat) (hv:vB 256 b.reverse=n) (hn:n≠0):∀(d i:Nat),i+d=b.length→(∀j:Nat,j<i→rd b (j:Int)=0)→Ev (fun k=>exact_pack.l2 k b (i:Int)) (nat n):=by
 intro d
 induction d with
 |zero=>
  intro i hi hz
  have:=vB_zero 256 (l:=b.reverse) (fun j hj=>by
   rw [List.length_reverse]at hj
   rw [rd_reverse _ _ hj]
   exact hz _ (by omega))
  omega
 |succ d ih=>
  intro i hi hz
  by_cases h0:rd b (i:Int)=0
  ·have e1:wrap64 ((i:Int)+1)=((i+1:Nat):Int):=by rw [w64 (by omega) (by omega)];omega
   refine Ev.step (f:=fun k=>exact_pack.l2 k b ((i+1:Nat):Int)) (fun k=>?_) (ih (i+1) (by omega) (fun j hj=>?_))
   ·simp only [exact_pack.l2,e1]
    rw [if_pos (by omega),if_pos (by omega),if_pos h0]
   ·rcases Nat.lt_or_ge j i with h|h
    ·exact hz j h
    ·have:j=i:=by omega
     subst this
     exact h0
  ·refine Ev.step (f:=fun _=>some (nat n)) (fun k=>?_) (Ev.now _)
   simp only [exact_pack.l2]
   rw [if_pos (by omega),if_pos (by omega),if_neg h0,if_pos (by omega),Int.toNat_natCast]
   congr 1
   unfold nat
   congr 1
   have hu:(b.drop i).reverse=d8 n:=by
    refine d8_unique (Dig_reverse (Dig_drop hd _)) (fun hp=>?_) ?_
    ·rw [List.length_reverse]at hp⊢
     rw [rd_reverse _ _ (by omega),rd_drop]
     have:i+((b.drop i).length-1-((b.drop i).length-1))=i:=by omega
     rw [this]
     exact h0
    ·rw [←hv]
     conv=>rhs;rw [←List.take_append_drop i b]
     rw [List.reverse_append,vB_append,vB_zero 256 (l:=(b.take i).reverse) (fun j hj=>?_)]
     ·simp
     ·rw [List.length_reverse]at hj
      have hl:(b.take i).length=i:=by rw [List.length_take];omega
      rw [rd_reverse _ _ hj,rd_take _ _ _ (by omega)]
      exact hz _ (by omega)
   rw [←hu,List.reverse_reverse]
theorem byte_of (x:Int) (s:Nat) (hs:s<8) (h0:0≤x) (h1:x<B64):shr .u64 x ((8*s:Nat):Int)%256=x/256^s%256:=by
 unfold shr
 rw [Int.toNat_natCast]
 have:min (8*s) IntKind.u64.bits=8*s:=Nat.min_eq_left (by show 8*s≤64;omega)
 rw [this,Int.pow_mul]
 rfl
theorem byte_step (x:Int) (s:Nat) (hs:s<8) (h0:0≤x) (h1:x<B64):x%256^(s+1)=x%256^s+256^s*(x/256^s%256):=by
 have:s=0∨s=1∨s=2∨s=3∨s=4∨s=5∨s=6∨s=7:=by omega
 rcases this with rfl|rfl|rfl|rfl|rfl|rfl|rfl|rfl<;>simp<;>omega
def Packed (w b:List Int) (i s:Nat):Prop:=
 b.length=8*w.length∧Dig 256 b∧vB 256 b.reverse=vB B64 (w.take i)+B64^i*(rd w (i:Int)%256^s)∧∀j:Nat,8*i+s≤j→rd b.reverse (j:Int)=0
theorem packed_step {w b:List Int} {i s:Nat} (hw:Dig B64 w) (hi:i<w.length) (hs:s<8) (h:Packed w b i s):
  8*i+s<b.length∧Packed w (b.set (b.length-1-(8*i+s)) (rd w (i:Int)/256^s%256)) i (s+1):=by
 obtain⟨hl,hd,hv,hz⟩:=h
 obtain⟨hx0,hx1⟩:=Dig_rd hw i hi
 have hlt:8*i+s<b.length:=by omega
 refine⟨hlt,by rw [List.length_set];exact hl,Dig_set hd _ (Int.emod_nonneg _ (by decide)) (Int.emod_lt_of_pos _ (by decide)),?_,fun j hj=>?_⟩
 ·rw [set_reverse _ _ _ (by omega)]
  have e:b.length-1-(b.length-1-(8*i+s))=8*i+s:=by omega
  rw [e,vB_set _ _ _ _ (by rw [List.length_reverse];exact hlt),hz _ (Nat.le_refl _),hv,byte_step _ s hs hx0 hx1,Int.sub_zero,Int.mul_add,←pow8,Int.mul_assoc,Int.add_assoc]
 ·rw [set_reverse _ _ _ (by omega)]
  have e:b.length-1-(b.length-1-(8*i+s))=8*i+s:=by omega
  rw [e,rd_set_ne _ _ _ _ (by omega)]
  exact hz j (by omega)
theorem packed_word {w b:List Int} {i:Nat} (hw:Dig B64 w) (hi:i<w.length) (h:Packed w b i 8):Packed w b (i+1) 0:=by
 obtain⟨hl,hd,hv,hz⟩:=h
 obtain⟨hx0,hx1⟩:=Dig_rd hw i hi
 refine⟨hl,hd,?_,fun j hj=>hz j (by omega)⟩
 rw [hv,vB_take_succ _ _ _ hi]
 have:rd w (i:Int)%256^8=rd w (i:Int):=Int.emod_eq_of_lt hx0 hx1
 rw [this]
 simp
theorem pack_l1 (w:List Int) (hw:Dig B64 w) (hl:w.length≤1099511627776) (i:Nat) (hi:i<w.length) (r:ByteArray)
  (next:∀b,Packed w b (i+1) 0→Ev (fun k=>exact_pack.l0 k b w (w.length:Int) ((i+1:Nat):Int)) r):∀(d s:Nat) (b:List Int),s+d=8→Packed w b i s→
  Ev (fun k=>exact_pack.l1 k b (i:Int) (rd w (i:Int)) w (w.length:Int) (i:Int) (s:Int)) r:=by
 obtain⟨hx0,hx1⟩:=Dig_rd hw i hi
 intro d
 induction d with
 |zero=>
  intro s b hs hp
  have hs:s=8:=by omega
  subst hs
  refine Ev.step (f:=fun k=>exact_pack.l0 k b w (w.length:Int) ((i+1:Nat):Int)) (fun k=>?_) (next b (packed_word hw hi hp))
  have c1:¬((8:Nat):Int)<8:=by omega
  have e1:wrap64 ((i:Int)+1)=((i+1:Nat):Int):=by rw [w64 (by omega) (by omega)];omega
  simp only [exact_pack.l1,e1]
  rw [if_neg c1]
 |succ d ih=>
  intro s b hs hp
  have hlb:=hp.1
  obtain⟨hlt,hp'⟩:=packed_step hw hi (by omega) hp
  refine Ev.step (f:=fun k=>exact_pack.l1 k (b.set (b.length-1-(8*i+s)) (rd w (i:Int)/256^s%256)) (i:Int) (rd w (i:Int)) w (w.length:Int) (i:Int) ((s+1:Nat):Int)) (fun k=>?_) (ih (s+1) _ (by omega) hp')
  have c1:((s:Nat):Int)<8:=by omega
  have c2:((b.length-1-(8*i+s):Nat):Int)<(b.length:Int):=by omega
  have e0:=byte_of _ s (by omega) hx0 hx1
  have e1:wrap64 (8*(s:Int))=((8*s:Nat):Int):=by rw [w64 (by omega) (by omega)];omega
  have e2:wrap64 (wrap64 (wrap64 ((b.length:Int)-1)-((8*i:Nat):Int))-(s:Int))=((b.length-1-(8*i+s):Nat):Int):=by
   clear e1 e0
   rw [w64 (x:=(b.length:Int)-1) (by omega) (by omega),w64 (x:=(b.length:Int)-1-((8*i:Nat):Int)) (by omega) (by omega),w64 (by omega) (by omega)]
   omega
  have e4:wrap64 (8*(i:Int))=((8*i:Nat):Int):=by clear e0 e1 e2;rw [w64 (by omega) (by omega)];omega
  have e3:wrap64 ((s:Int)+1)=((s+1:Nat):Int):=by clear e0 e1 e2 e4;rw [w64 (by omega) (by omega)];omega
  simp only [exact_pack.l1,e1,e4,e2,e3]
  rw [if_pos c1,if_pos (Int.natCast_nonneg _),if_pos (Int.natCast_nonneg _),if_pos c2,Int.toNat_natCast,e0]
theorem pack_l0 (w:List Int) (hw:Dig B64 w) (hl:w.length≤1099511627776) (n:Nat) (hv:vB B64 w=n) (hn:n≠0):∀(d i:Nat) (b:List Int),i+d=w.length→Packed w b i 0→Ev (fun k=>exact_pack.l0 k b w (w.length:Int) (i:Int)) (nat n):=by
 intro d
 induction d with
 |zero=>
  intro i b hi hp
  obtain⟨h1,h2,h3,h4⟩:=hp
  have hi:i=w.length:=by omega
  subst hi
  have e:vB 256 b.reverse=n:=by
   rw [h3,List.take_of_length_le (Nat.le_refl _),hv]
   simp
  refine Ev.step (f:=fun k=>exact_pack.l2 k b ((0:Nat):Int)) (fun k=>?_) (pack_l2 b h2 (by omega) n e hn b.length 0 (by omega) (fun j hj=>absurd hj (by omega)))
  simp only [exact_pack.l0]
  rw [if_neg (by omega)]
  rfl
 |succ d ih=>
  intro i b hi hp
  refine Ev.step (f:=fun k=>exact_pack.l1 k b (i:Int) (rd w (i:Int)) w (w.length:Int) (i:Int) ((0:Nat):Int)) (fun k=>?_) (pack_l1 w hw hl i (by omega) (nat n) (fun b' hp'=>ih (i+1) b' (by omega) hp') 8 0 b (by omega) hp)
  simp only [exact_pack.l0]
  rw [if_pos (by omega),if_pos (by omega),if_pos (by omega)]
  rfl
theorem pack_ev {l:List Int} (hd:Dig B64 l) (hl:l.length≤1099511627776):Ev (fun k=>exact_pack.f k l) (nat (vB B64 l).toNat):=by
 have hv:=vB_nonneg (by decide) hd
 have ht:(d64 (vB B64 l).toNat).length≤l.length:=dgs_len (by
  have:=vB_lt (by decide) hd
  have h1:(((vB B64 l).toNat:Nat):Int)<((18446744073709551614+2:Nat):Int)^l.length:=by
   rw [Int.toNat_of_nonneg hv]
   exact this
  exact_mod_cast h1)
 refine Ev.congr (f:=fun k=>(exact_trim.f k l).bind fun t=>if(t.length:Int)=0 then some (⟨#[]⟩:ByteArray)else if 0≤wrap64 (8*(t.length:Int))then(if(wrap64 (8*(t.length:Int)):Int).toNat≤281474976710656 then exact_pack.l0 k (List.replicate (wrap64 (8*(t.length:Int)):Int).toNat 0) t (t.length:Int) 0 else none)else none) (fun k=>rfl) (Ev.bind (trim_ev hd (by omega)) ?_)
 generalize hn:(vB B64 l).toNat=n at*
 by_cases h0:n=0
 ·subst h0
  rw [d64_zero,nat_zero]
  exact Ev.now _
 ·have hne:(d64 n).length≠0:=by
   intro h
   have:=d64_val n
   rw [List.eq_nil_of_length_eq_zero h]at this
   simp [vB]at this
   omega
  have e1:wrap64 (8*((d64 n).length:Int))=((8*(d64 n).length:Nat):Int):=by rw [w64 (by omega) (by omega)];omega
  refine Ev.congr (f:=fun k=>exact_pack.l0 k (List.replicate (8*(d64 n).length) 0) (d64 n) ((d64 n).length:Int) ((0:Nat):Int)) (fun k=>?_) (pack_l0 (d64 n) (d64_dig n) (by omega) n (d64_val n) h0 (d64 n).length 0 _ (by omega) ⟨by simp,Dig_replicate (by decide) _,?_,fun j _=>?_⟩)
  ·rw [e1,if_neg (by omega),if_pos (by omega),Int.toNat_natCast,if_pos (by omega)]
   rfl
  ·rw [List.reverse_replicate,vB_replicate]
   simp [vB]
  ·rw [List.reverse_replicate,rd_replicate]
theorem mul_range {a b A B:Int} (a0:0≤a) (a1:a≤A) (b0:0≤b) (b1:b≤B):0≤a*b∧a*b≤A*B:=
 ⟨Int.mul_nonneg a0 b0,Int.le_trans (Int.mul_le_mul_of_nonneg_left b1 a0) (Int.mul_le_mul_of_nonneg_right a1 (by omega))⟩
theorem and_low {x:Int} (h0:0≤x) (h1:x<B64):Go.bits .and .u64 x 4294967295=x%4294967296:=
 bits_mask .u64 64 (by decide) wraps_u64 32 (by decide) x h0 (by simpa using h1)
theorem mul64_eq {x y:Int} (x0:0≤x) (x1:x<B64) (y0:0≤y) (y1:y<B64):bits_Mul64.f x y=some (x*y/B64,x*y%B64):=by
 have x1':x<18446744073709551616:=x1
 have y1':y<18446744073709551616:=y1
 show bits_Mul64.f x y=some (x*y/18446744073709551616,x*y%18446744073709551616)
 obtain⟨a,ha⟩:∃a,a=x/4294967296:=⟨_,rfl⟩
 obtain⟨b,hb⟩:∃b,b=x%4294967296:=⟨_,rfl⟩
 obtain⟨c,hc⟩:∃c,c=y/4294967296:=⟨_,rfl⟩
 obtain⟨d,hd⟩:∃d,d=y%4294967296:=⟨_,rfl⟩
 have hx:x=a*4294967296+b:=by omega
 have hy:y=c*4294967296+d:=by omega
 have a0:0≤a∧a≤4294967295:=by omega
 have b0:0≤b∧b≤4294967295:=by omega
 have c0:0≤c∧c≤4294967295:=by omega
 have d0:0≤d∧d≤4294967295:=by omega
 have hac:=mul_range a0.1 a0.2 c0.1 c0.2
 have had:=mul_range a0.1 a0.2 d0.1 d0.2
 have hbc:=mul_range b0.1 b0.2 c0.1 c0.2
 have hbd:=mul_range b0.1 b0.2 d0.1 d0.2
 have hp:x*y=a*c*18446744073709551616+(a*d+b*c)*4294967296+b*d:=by
  rw [hx,hy,Int.add_mul,Int.mul_add,Int.mul_add,Int.add_mul]
  have e1:a*4294967296*(c*4294967296)=a*c*18446744073709551616:=by
   rw [Int.mul_assoc,Int.mul_left_comm 4294967296 c,Int.mul_assoc a c]
   congr 1
  have e2:a*4294967296*d=a*d*4294967296:=by rw [Int.mul_assoc,Int.mul_comm 4294967296 d,←Int.mul_assoc]
  have e3:b*(c*4294967296)=b*c*4294967296:=by rw [Int.mul_assoc]
  rw [e1,e2,e3]
  omega
 unfold bits_Mul64.f
 rw [and_low x0 x1,and_low y0 y1,←ha,←hb,←hc,←hd,hp]
 generalize hA:a*c=p at*
 generalize hD:a*d=q at*
 generalize hC:b*c=r at*
 generalize hE:b*d=s at*
 clear hA hD hC hE hp hx hy ha hb hc hd x0 x1 y0 y1 x1' y1'
 have h1:(4294967295:Int)*4294967295=18446744065119617025:=rfl
 rw [h1]at*
 rw [u64 (x:=s) (by omega) (by omega),u64 (x:=q) (by omega) (by omega),u64 (x:=q+s/4294967296) (by omega) (by omega),and_low (x:=q+s/4294967296) (by omega) (by show _<(18446744073709551616:Int);omega),
  u64 (x:=r) (by omega) (by omega),u64 (x:=(q+s/4294967296)%4294967296+r) (by omega) (by omega),u64 (x:=p) (by omega) (by omega),
  u64 (x:=p+(q+s/4294967296)/4294967296) (by omega) (by omega)]
 have e:p+(q+s/4294967296)/4294967296+((q+s/4294967296)%4294967296+r)/4294967296=(p*18446744073709551616+(q+r)*4294967296+s)/18446744073709551616:=by omega
 rw [e,u64 (x:=(p*18446744073709551616+(q+r)*4294967296+s)/18446744073709551616) (by clear e;omega) (by clear e;omega),u64_mod]
theorem add64_eq {x y c:Int} (x0:0≤x) (y0:0≤y) (c0:0≤c) (c1:c≤1):bits_Add64.f x y c=some ((x+y+c)%B64,(x+y+c)/B64):=by
 unfold bits_Add64.f
 rw [if_pos ⟨x0,y0,c0,c1⟩]
theorem sub64_eq {x y c:Int} (x0:0≤x) (x1:x<B64) (y0:0≤y) (y1:y<B64) (c0:0≤c) (c1:c≤1):∃d e,bits_Sub64.f x y c=some (d,e)∧0≤d∧d<B64∧0≤e∧e≤1∧d=x-y-c+B64*e:=by
 have x1':x<18446744073709551616:=x1
 have y1':y<18446744073709551616:=y1
 unfold bits_Sub64.f
 rw [if_pos ⟨x0,y0,by omega,c0,c1⟩]
 refine⟨_,_,rfl,Int.emod_nonneg _ (by decide),Int.emod_lt_of_pos _ (by decide),?_,?_,?_⟩
 ·split<;>decide
 ·split<;>decide
 ·show(x-y-c)%18446744073709551616=x-y-c+18446744073709551616*_
  split<;>omega
theorem mul_add {x y o c:Int} (x0:0≤x) (x1:x<B64) (y0:0≤y) (y1:y<B64) (o0:0≤o) (o1:o<B64) (c0:0≤c) (c1:c<B64):
  IntKind.u64.wrap (IntKind.u64.wrap (x*y/B64+(x*y%B64+o+0)/B64)+((x*y%B64+o+0)%B64+c+0)/B64)=(x*y+o+c)/B64∧((x*y%B64+o+0)%B64+c+0)%B64=(x*y+o+c)%B64∧0≤(x*y+o+c)/B64∧(x*y+o+c)/B64<B64:=by
 have x1':x<18446744073709551616:=x1
 have y1':y<18446744073709551616:=y1
 have o1':o<18446744073709551616:=o1
 have c1':c<18446744073709551616:=c1
 have hp:=mul_range x0 (show x≤18446744073709551615 by omega) y0 (show y≤18446744073709551615 by omega)
 have h1:(18446744073709551615:Int)*18446744073709551615=340282366920938463426481119284349108225:=rfl
 rw [h1]at hp
 show IntKind.u64.wrap (IntKind.u64.wrap (x*y/18446744073709551616+(x*y%18446744073709551616+o+0)/18446744073709551616)+((x*y%18446744073709551616+o+0)%18446744073709551616+c+0)/18446744073709551616)=(x*y+o+c)/18446744073709551616∧((x*y%18446744073709551616+o+0)%18446744073709551616+c+0)%18446744073709551616=(x*y+o+c)%18446744073709551616∧0≤(x*y+o+c)/18446744073709551616∧(x*y+o+c)/18446744073709551616<18446744073709551616
 generalize x*y=p at*
 clear x0 x1 x1' y0 y1 y1' o1 c1 h1
 have a1:0≤p/18446744073709551616+(p%18446744073709551616+o+0)/18446744073709551616∧p/18446744073709551616+(p%18446744073709551616+o+0)/18446744073709551616<18446744073709551616:=by omega
 rw [u64 a1.1 a1.2]
 have a2:p/18446744073709551616+(p%18446744073709551616+o+0)/18446744073709551616+((p%18446744073709551616+o+0)%18446744073709551616+c+0)/18446744073709551616=(p+o+c)/18446744073709551616:=by omega
 have a3:0≤(p+o+c)/18446744073709551616∧(p+o+c)/18446744073709551616<18446744073709551616:=by omega
 rw [a2,u64 a3.1 a3.2]
 refine⟨rfl,by omega,a3.1,a3.2⟩
theorem take_succ (B:Int) (l:List Int) (i:Nat):vB B (l.take (i+1))=vB B (l.take i)+B^i*rd l (i:Int):=by
 rcases Nat.lt_or_ge i l.length with h|h
 ·exact vB_take_succ B l i h
 ·rw [List.take_of_length_le (by omega),List.take_of_length_le h,rd_nat,List.getD_eq_getElem?_getD,List.getElem?_eq_none h]
  simp
theorem vB_all (B:Int) (l:List Int) (i:Nat) (h:l.length≤i):vB B (l.take i)=vB B l:=by rw [List.take_of_length_le h]
theorem size_mono {m n:Nat} (h:m≤n):(nat m).size≤(nat n).size:=nat_size_le.2 (Nat.lt_of_le_of_lt h (nat_lt_size n))
theorem words_len (n:Nat):(d64 n).length≤((nat n).size+7)/8:=by
 apply dgs_len
 have h1:=nat_lt_size n
 have h2:256^(nat n).size≤256^(8*(((nat n).size+7)/8)):=Nat.pow_le_pow_right (by decide) (by omega)
 rw [Nat.pow_mul]at h2
 exact Nat.lt_of_lt_of_le h1 h2
theorem add_range {x y c:Int} (x0:0≤x) (x1:x<B64) (y0:0≤y) (y1:y<B64) (c0:0≤c) (c1:c≤1):0≤(x+y+c)/B64∧(x+y+c)/B64≤1:=by
 have x1':x<18446744073709551616:=x1
 have y1':y<18446744073709551616:=y1
 show 0≤(x+y+c)/18446744073709551616∧(x+y+c)/18446744073709551616≤1
 omega
theorem d64_len_mono {m n:Nat} (h:m≤n):(d64 m).length≤(d64 n).length:=dgs_len (Nat.lt_of_le_of_lt h (dgs_lt 18446744073709551614 n))
def cmpN (m n:Nat):Int:=if m<n then -1 else if m=n then 0 else 1
def chk (s:ByteArray):Int:=if 0<s.size∧bt s 0=0 then 1 else if 1024<s.size then 4 else 0
theorem Check_ev (s:ByteArray):Ev (fun k=>natural_Check.f k s) (chk s):=by
 have hj:∀b:Bool,(b=true↔0<s.size∧bt s 0=0)→Ev (fun k=>natural_Check.j0 k s b) (chk s):=by
  intro b hb
  refine Ev.step (f:=fun _=>some (chk s)) (fun k=>?_) (Ev.now _)
  unfold chk
  simp only [natural_Check.j0]
  by_cases h:b=true
  ·rw [if_pos h,if_pos (hb.1 h)]
  ·rw [if_neg h,if_neg (fun h'=>h (hb.2 h'))]
   by_cases h3:1024<s.size
   ·rw [if_pos (by omega),if_pos h3]
   ·rw [if_neg (by omega),if_neg h3]
 by_cases h:0<s.size
 ·refine Ev.congr (f:=fun k=>natural_Check.j0 k s (bt s 0==0)) (fun k=>?_) (hj _ (by simp [h]))
  unfold natural_Check.f
  rw [if_pos (by omega),if_pos (by omega)]
 ·refine Ev.congr (f:=fun k=>natural_Check.j0 k s false) (fun k=>?_) (hj _ (by simp [h]))
  unfold natural_Check.f
  rw [if_neg (by omega)]
theorem chk_nat {n:Nat} (h:(nat n).size≤1024):chk (nat n)=0:=by
 unfold chk
 rw [if_neg,if_neg (by omega)]
 rintro⟨h1,h2⟩
 rcases nat_wf n with h3|h3
 ·omega
 ·exact h3 h2
theorem chk_zero {s:ByteArray} (h:chk s=0):s=nat (bval s).toNat∧s.size≤1024:=by
 unfold chk at h
 by_cases h1:0<s.size∧bt s 0=0
 ·rw [if_pos h1]at h;omega
 ·rw [if_neg h1]at h
  refine⟨wf_nat ?_,?_⟩
  ·rcases Nat.eq_zero_or_pos s.size with h2|h2
   ·exact Or.inl h2
   ·exact Or.inr (fun h3=>h1 ⟨h2,h3⟩)
  ·rcases Nat.lt_or_ge 1024 s.size with h2|h2
   ·rw [if_pos h2]at h;omega
   ·exact h2
def bnd (n:Nat):ByteArray×Int:=if 1024<(nat n).size then(⟨#[]⟩,4)else(nat n,0)
theorem ev_some {α β:Type} {o:Option α} {f:Nat→α→Option β} {a:α} {r:β} (h:o=some a) (k:Ev (fun n=>f n a) r):Ev (fun n=>o.bind (f n)) r:=by subst h;exact k
theorem number {s:ByteArray} (h:chk s=0):∃n,s=nat n∧(nat n).size≤1024:=by
 obtain⟨h1,h2⟩:=chk_zero h
 exact⟨_,h1,by rw [←h1];exact h2⟩
theorem shl_eq (x:Int) (s:Nat) (hs:s≤64):shl .u64 x (s:Int)=(x*2^s)%18446744073709551616:=by
 unfold shl
 rw [Int.toNat_natCast,u64_mod,show min s IntKind.u64.bits=s from Nat.min_eq_left hs]
theorem shr_eq (x:Int) (s:Nat) (hs:s≤64):shr .u64 x (s:Int)=x/2^s:=by
 unfold shr
 rw [Int.toNat_natCast,show min s IntKind.u64.bits=s from Nat.min_eq_left hs]
theorem norm_word {y:Int} (y0:0<y) (y1:y<B64):∃s:Nat,s≤63∧bits_LeadingZeros64.f y=some (s:Int)∧9223372036854775808≤y*2^s∧y*2^s<18446744073709551616:=by
 have y1':y<18446744073709551616:=y1
 obtain⟨n,rfl⟩:=Int.eq_ofNat_of_zero_le (Int.le_of_lt y0)
 have hn:n<2^64:=by omega
 obtain⟨h1,h2,h3⟩:=Lib.bitLenAux_bounds 64 n hn (by omega)
 have h4:Lib.bitLen n≤64:=Lib.bitLen_le n 64 (by decide) hn
 have e:Lib.bitLenAux 64 n=Lib.bitLen n:=rfl
 rw [e]at h1 h2 h3
 generalize hL:Lib.bitLen n=L at*
 refine⟨64-L,by omega,?_,?_,?_⟩
 ·unfold bits_LeadingZeros64.f bits_Len64.f
  rw [if_pos (by omega),Option.bind_some,Int.toNat_natCast,hL,w64 (by omega) (by omega)]
  congr 1
  omega
 ·have h5:2^(L-1)*2^(64-L)=2^63:=by rw [←Nat.pow_add];congr 1;omega
  have h6:=Nat.mul_le_mul_right (2^(64-L)) h2
  rw [h5]at h6
  have e1:(n:Int)*2^(64-L)=((n*2^(64-L):Nat):Int):=by rw [Int.natCast_mul,Int.natCast_pow];rfl
  rw [e1]
  generalize n*2^(64-L)=M at*
  omega
 ·have h5:2^L*2^(64-L)=2^64:=by rw [←Nat.pow_add];congr 1;omega
  have h6:=Nat.mul_lt_mul_of_pos_right h3 (Nat.two_pow_pos (64-L))
  rw [h5]at h6
  have e1:(n:Int)*2^(64-L)=((n*2^(64-L):Nat):Int):=by rw [Int.natCast_mul,Int.natCast_pow];rfl
  rw [e1]
  generalize n*2^(64-L)=M at*
  omega
def Half (y1 U Q q r:Int):Prop:=Q≤q∧q*y1+r=U∧0≤r∧r<4294967296∧q≤4294967297
theorem half_le {y1 y0 U u q r:Int} (hy:0<y1*4294967296+y0) (he:q*y1+r=U) (h:q*y0≤4294967296*r+u):q≤(U*4294967296+u)/(y1*4294967296+y0):=by
 apply Int.le_ediv_of_mul_le hy
 have:q*(y1*4294967296+y0)=q*y1*4294967296+q*y0:=by rw [Int.mul_add,Int.mul_assoc]
 omega
theorem half_gt {y1 y0 U u q r:Int} (hy:0<y1*4294967296+y0) (he:q*y1+r=U) (h:4294967296*r+u<q*y0):(U*4294967296+u)/(y1*4294967296+y0)≤q-1:=by
 have:(U*4294967296+u)/(y1*4294967296+y0)<q:=by
  apply Int.ediv_lt_of_lt_mul hy
  have:q*(y1*4294967296+y0)=q*y1*4294967296+q*y0:=by rw [Int.mul_add,Int.mul_assoc]
  omega
 omega
theorem half_lt {y1 y0 U u:Int} (hy:0<y1*4294967296+y0) (hU:U<y1*4294967296+y0) (u1:u<4294967296):(U*4294967296+u)/(y1*4294967296+y0)<4294967296:=by
 apply Int.ediv_lt_of_lt_mul hy
 omega
theorem half_start {y1 y0 U u:Int} (h1:2147483648≤y1) (h2:y1<4294967296) (h3:0≤y0) (h4:y0<4294967296) (U0:0≤U) (hU:U<y1*4294967296+y0) (u0:0≤u) (u1:u<4294967296):
  Half y1 U ((U*4294967296+u)/(y1*4294967296+y0)) (U/y1) (U%y1)∧0≤U/y1:=by
 have hy:0<y1*4294967296+y0:=by omega
 have hQ0:0≤(U*4294967296+u)/(y1*4294967296+y0):=Int.ediv_nonneg (by omega) (by omega)
 have hq0:0≤U/y1:=Int.ediv_nonneg U0 (by omega)
 have e:=Int.emod_add_mul_ediv U y1
 have hr:=Int.emod_lt_of_pos U (show 0<y1 by omega)
 have hr0:=Int.emod_nonneg U (show y1≠0 by omega)
 refine⟨⟨?_,by rw [Int.mul_comm];omega,hr0,by omega,?_⟩,hq0⟩
 ·apply Int.le_ediv_of_mul_le (by omega)
  have h5:=Int.ediv_mul_le (U*4294967296+u) (show y1*4294967296+y0≠0 by omega)
  generalize(U*4294967296+u)/(y1*4294967296+y0)=Q at*
  rw [Int.mul_add,←Int.mul_assoc]at h5
  have h6:=Int.mul_nonneg hQ0 h3
  omega
 ·have:U/y1<4294967298:=by
   apply Int.ediv_lt_of_lt_mul (by omega)
   omega
  omega
theorem half_step {y1 y0 U u q r:Int} (h1:2147483648≤y1) (h2:y1<4294967296) (h3:0≤y0) (h4:y0<4294967296) (hU:U<y1*4294967296+y0) (u0:0≤u) (u1:u<4294967296)
  (h:Half y1 U ((U*4294967296+u)/(y1*4294967296+y0)) q r) (ht:4294967296≤q∨4294967296*r+u<q*y0):
  (4294967296≤r+y1→q-1=(U*4294967296+u)/(y1*4294967296+y0))∧(r+y1<4294967296→Half y1 U ((U*4294967296+u)/(y1*4294967296+y0)) (q-1) (r+y1)):=by
 obtain⟨a1,a2,a3,a4,a5⟩:=h
 have hy:0<y1*4294967296+y0:=by omega
 have b1:(U*4294967296+u)/(y1*4294967296+y0)≤q-1:=by
  rcases ht with ht|ht
  ·have:=half_lt hy hU u1
   omega
  ·exact half_gt hy a2 ht
 have b2:(q-1)*y1+(r+y1)=U:=by rw [Int.sub_mul,Int.one_mul];omega
 refine⟨fun h5=>?_,fun h5=>⟨b1,b2,by omega,h5,by omega⟩⟩
 have h6:(q-1)*y0≤4294967296*4294967295:=by
  refine Int.le_trans (Int.mul_le_mul_of_nonneg_right (show q-1≤4294967296 by omega) h3) ?_
  omega
 have b3:=half_le (u:=u) hy b2 (by omega)
 omega
theorem half_done {y1 y0 U u q r:Int} (hy:0<y1*4294967296+y0) (h:Half y1 U ((U*4294967296+u)/(y1*4294967296+y0)) q r) (ht:¬4294967296*r+u<q*y0):q=(U*4294967296+u)/(y1*4294967296+y0):=by
 obtain⟨a1,a2,a3,a4,a5⟩:=h
 have:=half_le (u:=u) hy a2 (by omega)
 omega
theorem half_test {q y0 r u:Int} (q0:0≤q) (q1:q<4294967296) (h3:0≤y0) (h4:y0<4294967296) (r0:0≤r) (r1:r<4294967296) (u0:0≤u) (u1:u<4294967296):
  IntKind.u64.wrap (q*y0)=q*y0∧IntKind.u64.wrap (IntKind.u64.wrap (4294967296*r)+u)=4294967296*r+u:=by
 have h:=mul_range q0 (show q≤4294967295 by omega) h3 (show y0≤4294967295 by omega)
 rw [u64 (x:=4294967296*r) (by omega) (by omega)]
 exact⟨u64 h.1 (by omega),u64 (by omega) (by omega)⟩
theorem div_l1 {y s y1 y0:Int} (h1:2147483648≤y1) (h2:y1<4294967296) (h3:0≤y0) (h4:y0<4294967296) (s0:0≤s) {U u Q1:Int} (U0:0≤U) (hU:U<y1*4294967296+y0) (u0:0≤u) (u1:u<4294967296):∀(d:Nat) (q r:Int),q=(U*4294967296+u)/(y1*4294967296+y0)+d→Half y1 U ((U*4294967296+u)/(y1*4294967296+y0)) q r→
  Ev (fun k=>bits_Div64.l1 k y s y1 y0 u Q1 r U q) (IntKind.u64.wrap ((IntKind.u64.wrap (Q1*4294967296))+((U*4294967296+u)/(y1*4294967296+y0))),shr .u64 (IntKind.u64.wrap ((IntKind.u64.wrap ((IntKind.u64.wrap (U*4294967296))+u))-(IntKind.u64.wrap (((U*4294967296+u)/(y1*4294967296+y0))*y)))) s):=by
 have hy:0<y1*4294967296+y0:=by omega
 have hQ0:0≤(U*4294967296+u)/(y1*4294967296+y0):=Int.ediv_nonneg (by omega) (by omega)
 intro d
 induction d with
 |zero=>
  intro q r hq h
  have hq:q=(U*4294967296+u)/(y1*4294967296+y0):=by omega
  have hq1:=half_lt hy hU u1
  rw [←hq]at hq1
  have ht:¬4294967296*r+u<q*y0:=by
   intro ht
   have:=half_gt (u:=u) hy h.2.1 ht
   omega
  obtain⟨e1,e2⟩:=half_test (show 0≤q by omega) hq1 h3 h4 h.2.2.1 h.2.2.2.1 u0 u1
  have c1:¬q≥4294967296:=by omega
  rw [←hq]
  refine Ev.step (f:=fun k=>bits_Div64.j4 k y s y1 y0 u Q1 r U q false) (fun k=>?_) (Ev.step (f:=fun _=>some _) (fun k=>?_) (Ev.now _))
  ·simp only [bits_Div64.l1]
   rw [if_neg c1,e1,e2,decide_eq_false ht]
  ·simp only [bits_Div64.j4]
   rw [if_neg Bool.false_ne_true,if_pos s0]
 |succ d ih=>
  intro q r hq h
  have ht:4294967296≤q∨4294967296*r+u<q*y0:=by
   by_cases ht:4294967296*r+u<q*y0
   ·exact Or.inr ht
   ·have:=half_done hy h ht
    omega
  obtain⟨g1,g2⟩:=half_step h1 h2 h3 h4 hU u0 u1 h ht
  have r0:=h.2.2.1
  have r1:=h.2.2.2.1
  have q1:=h.2.2.2.2
  have w1:IntKind.u64.wrap (q-1)=q-1:=u64 (by omega) (by omega)
  have w2:IntKind.u64.wrap (r+y1)=r+y1:=u64 (by omega) (by omega)
  refine Ev.step (f:=fun k=>bits_Div64.j4 k y s y1 y0 u Q1 r U q true) (fun k=>?_) ?_
  ·simp only [bits_Div64.l1]
   by_cases c1:q≥4294967296
   ·rw [if_pos c1]
   ·rw [if_neg c1]
    have ht':4294967296*r+u<q*y0:=by
     rcases ht with ht|ht
     ·exact absurd ht c1
     ·exact ht
    obtain⟨e1,e2⟩:=half_test (show 0≤q by omega) (by omega) h3 h4 r0 r1 u0 u1
    rw [e1,e2,decide_eq_true ht']
  ·by_cases c2:r+y1≥4294967296
   ·refine Ev.step (f:=fun _=>some _) (fun k=>?_) (Ev.now _)
    simp only [bits_Div64.j4]
    rw [if_pos trivial,w1,w2,if_pos c2,if_pos s0,g1 c2]
   ·refine Ev.step (f:=fun k=>bits_Div64.l1 k y s y1 y0 u Q1 (r+y1) U (q-1)) (fun k=>?_) (ih (q-1) (r+y1) (by omega) (g2 (by omega)))
    simp only [bits_Div64.j4]
    rw [if_pos trivial,w1,w2,if_neg c2]
theorem div_l0 {y s y1 y0:Int} (h1:2147483648≤y1) (h2:y1<4294967296) (h3:0≤y0) (h4:y0<4294967296) {U u v:Int} (U0:0≤U) (hU:U<y1*4294967296+y0) (u0:0≤u) (u1:u<4294967296) {R:Int×Int}
  (next:Ev (fun k=>bits_Div64.j2 k y s y1 y0 U u v ((U*4294967296+u)/(y1*4294967296+y0))) R):∀(d:Nat) (q r:Int),q=(U*4294967296+u)/(y1*4294967296+y0)+d→Half y1 U ((U*4294967296+u)/(y1*4294967296+y0)) q r→
  Ev (fun k=>bits_Div64.l0 k y s y1 y0 U u v q r) R:=by
 have hy:0<y1*4294967296+y0:=by omega
 have hQ0:0≤(U*4294967296+u)/(y1*4294967296+y0):=Int.ediv_nonneg (by omega) (by omega)
 intro d
 induction d with
 |zero=>
  intro q r hq h
  have hq:q=(U*4294967296+u)/(y1*4294967296+y0):=by omega
  have hq1:=half_lt hy hU u1
  rw [←hq]at hq1
  have ht:¬4294967296*r+u<q*y0:=by
   intro ht
   have:=half_gt (u:=u) hy h.2.1 ht
   omega
  obtain⟨e1,e2⟩:=half_test (show 0≤q by omega) hq1 h3 h4 h.2.2.1 h.2.2.2.1 u0 u1
  have c1:¬q≥4294967296:=by omega
  rw [←hq]at next
  refine Ev.step (f:=fun k=>bits_Div64.j1 k y s y1 y0 U u v q r false) (fun k=>?_) (Ev.step (f:=fun k=>bits_Div64.j2 k y s y1 y0 U u v q) (fun k=>?_) next)
  ·simp only [bits_Div64.l0]
   rw [if_neg c1,e1,e2,decide_eq_false ht]
  ·simp only [bits_Div64.j1]
   rw [if_neg Bool.false_ne_true]
 |succ d ih=>
  intro q r hq h
  have ht:4294967296≤q∨4294967296*r+u<q*y0:=by
   by_cases ht:4294967296*r+u<q*y0
   ·exact Or.inr ht
   ·have:=half_done hy h ht
    omega
  obtain⟨g1,g2⟩:=half_step h1 h2 h3 h4 hU u0 u1 h ht
  have r0:=h.2.2.1
  have r1:=h.2.2.2.1
  have q1:=h.2.2.2.2
  have w1:IntKind.u64.wrap (q-1)=q-1:=u64 (by omega) (by omega)
  have w2:IntKind.u64.wrap (r+y1)=r+y1:=u64 (by omega) (by omega)
  refine Ev.step (f:=fun k=>bits_Div64.j1 k y s y1 y0 U u v q r true) (fun k=>?_) ?_
  ·simp only [bits_Div64.l0]
   by_cases c1:q≥4294967296
   ·rw [if_pos c1]
   ·rw [if_neg c1]
    have ht':4294967296*r+u<q*y0:=by
     rcases ht with ht|ht
     ·exact absurd ht c1
     ·exact ht
    obtain⟨e1,e2⟩:=half_test (show 0≤q by omega) (by omega) h3 h4 r0 r1 u0 u1
    rw [e1,e2,decide_eq_true ht']
  ·by_cases c2:r+y1≥4294967296
   ·rw [←g1 c2]at next
    refine Ev.step (f:=fun k=>bits_Div64.j2 k y s y1 y0 U u v (q-1)) (fun k=>?_) next
    simp only [bits_Div64.j1]
    rw [if_pos trivial,w1,w2,if_pos c2]
   ·refine Ev.step (f:=fun k=>bits_Div64.l0 k y s y1 y0 U u v (q-1) (r+y1)) (fun k=>?_) (ih (q-1) (r+y1) (by omega) (g2 (by omega)))
    simp only [bits_Div64.j1]
    rw [if_pos trivial,w1,w2,if_neg c2]
theorem div64_ev {h l y:Int} (h0:0≤h) (hy:h<y) (y1:y<B64) (l0:0≤l) (l1:l<B64):Ev (fun k=>bits_Div64.f k h l y) ((h*B64+l)/y,(h*B64+l)%y):=by
 have y1':y<18446744073709551616:=y1
 have l1':l<18446744073709551616:=l1
 show Ev (fun k=>bits_Div64.f k h l y) ((h*18446744073709551616+l)/y,(h*18446744073709551616+l)%y)
 have yp:0<y:=by omega
 by_cases hz:h=0
 ·subst hz
  have hq:l/y<18446744073709551616:=Int.ediv_lt_of_lt_mul yp (by
   have:=Int.mul_le_mul_of_nonneg_left (show 1≤y by omega) (show(0:Int)≤18446744073709551616 by decide)
   omega)
  refine Ev.congr (f:=fun _=>some (l/y,l%y)) (fun k=>?_) (by rw [Int.zero_mul,Int.zero_add];exact Ev.now _)
  unfold bits_Div64.f
  rw [if_neg (by omega),if_neg (by omega),if_pos rfl,Int.tdiv_eq_ediv_of_nonneg l0,Int.tmod_eq_emod_of_nonneg l0,u64 (Int.ediv_nonneg l0 (by omega)) hq]
 ·obtain⟨s,s1,hs,n0,n1⟩:=norm_word yp y1
  have hPR:(2:Int)^s*2^(64-s)=18446744073709551616:=by
   rw [←Int.pow_add]
   have:s+(64-s)=64:=by omega
   rw [this]
   rfl
  have hP:(0:Int)<2^s:=Int.pow_pos (by decide)
  have hR:(0:Int)<2^(64-s):=Int.pow_pos (by decide)
  have e1:IntKind.u64.wrap (s:Int)=(s:Int):=u64 (by omega) (by omega)
  have e2:IntKind.u64.wrap (64-(s:Int))=((64-s:Nat):Int):=by rw [u64 (by omega) (by omega)];omega
  have d1:shl .u64 y (s:Int)=y*2^s:=by rw [shl_eq _ _ (by omega),Int.emod_eq_of_lt (by omega) n1]
  have h2:0≤h*2^s:=Int.mul_nonneg h0 (Int.le_of_lt hP)
  have h3:h*2^s+2^s≤y*2^s:=by
   have:=Int.mul_le_mul_of_nonneg_right (show h+1≤y by omega) (Int.le_of_lt hP)
   rwa [Int.add_mul,Int.one_mul]at this
  have hl0:0≤l/2^(64-s):=Int.ediv_nonneg l0 (Int.le_of_lt hR)
  have hl1:l/2^(64-s)<2^s:=Int.ediv_lt_of_lt_mul hR (by rw [hPR];exact l1')
  have d2:Go.bits .or .u64 (shl .u64 h (s:Int)) (shr .u64 l ((64-s:Nat):Int))=h*2^s+l/2^(64-s):=by
   rw [shl_eq _ _ (by omega),shr_eq _ _ (by omega),Int.emod_eq_of_lt h2 (by omega)]
   exact bits_join .u64 64 (by decide) wraps_u64 s (h*2^s) (l/2^(64-s)) h2 (Int.mul_emod_left _ _) (by show _<(18446744073709551616:Int);omega) hl0 hl1 (by show _<(18446744073709551616:Int);omega)
  have d3:shl .u64 l (s:Int)=(l*2^s)%18446744073709551616:=shl_eq _ _ (by omega)
  have hm:l*2^s=l/2^(64-s)*18446744073709551616+(l*2^s)%18446744073709551616:=by
   have g:=Int.emod_add_mul_ediv l (2^(64-s))
   have g0:=Int.emod_nonneg l (show(2:Int)^(64-s)≠0 by omega)
   have g1:=Int.emod_lt_of_pos l hR
   have g2:l*2^s=l%2^(64-s)*2^s+18446744073709551616*(l/2^(64-s)):=by
    conv=>lhs;rw [←g]
    rw [Int.add_mul,Int.mul_right_comm,Int.mul_comm (2^(64-s)) (2^s),hPR]
   have g3:0≤l%2^(64-s)*2^s:=Int.mul_nonneg g0 (Int.le_of_lt hP)
   have g4:l%2^(64-s)*2^s<18446744073709551616:=by
    have:=Int.mul_lt_mul_of_pos_right g1 hP
    rwa [Int.mul_comm (2^(64-s)) (2^s),hPR]at this
   omega
  obtain⟨U,hU⟩:∃U,U=h*2^s+l/2^(64-s):=⟨_,rfl⟩
  obtain⟨L,hL⟩:∃L,L=(l*2^s)%18446744073709551616:=⟨_,rfl⟩
  obtain⟨Y,hY⟩:∃Y,Y=y*2^s:=⟨_,rfl⟩
  have L0:0≤L:=by rw [hL];exact Int.emod_nonneg _ (by decide)
  have L1:L<18446744073709551616:=by rw [hL];exact Int.emod_lt_of_pos _ (by decide)
  have U0:0≤U:=by omega
  have U1:U<Y:=by omega
  have key:(h*18446744073709551616+l)*2^s=U*18446744073709551616+L:=by
   rw [Int.add_mul,Int.mul_right_comm,hU,hL]
   rw [hm]at*
   omega
  rw [←hU]at d2
  rw [←hL]at d3
  rw [←hY]at d1
  rw [←hY]at n0 n1
  have hPle:(2:Int)^s≤2^s:=Int.le_refl _
  clear hm h3 hl0 hl1 h2 hPR hR
  have hYd:=Int.emod_add_mul_ediv Y 4294967296
  have a1:2147483648≤Y/4294967296:=by omega
  have a2:Y/4294967296<4294967296:=by omega
  have a3:0≤Y%4294967296:=by omega
  have a4:Y%4294967296<4294967296:=by omega
  have aY:Y/4294967296*4294967296+Y%4294967296=Y:=by omega
  have b1:0≤L/4294967296:=by omega
  have b2:L/4294967296<4294967296:=by omega
  have b3:0≤L%4294967296:=by omega
  have b4:L%4294967296<4294967296:=by omega
  have c1:=and_low (x:=Y) (by omega) n1
  have c2:=and_low (x:=L) L0 L1
  obtain⟨f1,f2⟩:=half_start a1 a2 a3 a4 U0 (by rw [aY];exact U1) b1 b2
  have q1:U/(Y/4294967296)<18446744073709551616:=by have:=f1.2.2.2.2;omega
  have w1:IntKind.u64.wrap (Int.tdiv U (Y/4294967296))=U/(Y/4294967296):=by rw [Int.tdiv_eq_ediv_of_nonneg U0,u64 f2 q1]
  have m1:=mul_range f2 (show U/(Y/4294967296)≤4294967297 from f1.2.2.2.2) (show 0≤Y/4294967296 by omega) (show Y/4294967296≤4294967295 by omega)
  have r1:U-U/(Y/4294967296)*(Y/4294967296)=U%(Y/4294967296):=by have:=f1.2.1;omega
  have w2:IntKind.u64.wrap (U/(Y/4294967296)*(Y/4294967296))=U/(Y/4294967296)*(Y/4294967296):=u64 m1.1 (by omega)
  have w3:IntKind.u64.wrap (U%(Y/4294967296))=U%(Y/4294967296):=u64 f1.2.2.1 (by have:=f1.2.2.2.1;omega)
  refine Ev.congr (f:=fun k=>bits_Div64.l0 k Y (s:Int) (Y/4294967296) (Y%4294967296) U (L/4294967296) (L%4294967296) (U/(Y/4294967296)) (U%(Y/4294967296))) (fun k=>?_) ?_
  ·unfold bits_Div64.f
   rw [if_neg (by omega),if_neg (by omega),if_neg hz,hs,Option.bind_some,e1,if_pos (by omega),e2,if_pos (by omega),d1,d2,d3,c1,c2,if_neg (by omega),w1,w2,r1,w3]
  ·obtain⟨d,hd⟩:∃d:Nat,U/(Y/4294967296)=(U*4294967296+L/4294967296)/(Y/4294967296*4294967296+Y%4294967296)+d:=⟨(U/(Y/4294967296)-(U*4294967296+L/4294967296)/(Y/4294967296*4294967296+Y%4294967296)).toNat,by have:=f1.1;omega⟩
   refine div_l0 a1 a2 a3 a4 U0 (by rw [aY];exact U1) b1 b2 ?_ d _ _ hd f1
   clear d hd f1 f2 q1 w1 m1 r1 w2 w3
   rw [aY]
   obtain⟨Q,hQ⟩:∃Q,Q=(U*4294967296+L/4294967296)/Y:=⟨_,rfl⟩
   obtain⟨V,hV⟩:∃V,V=(U*4294967296+L/4294967296)%Y:=⟨_,rfl⟩
   have gQ:=Int.emod_add_mul_ediv (U*4294967296+L/4294967296) Y
   have V0:0≤V:=by rw [hV];exact Int.emod_nonneg _ (by omega)
   have V1:V<Y:=by rw [hV];exact Int.emod_lt_of_pos _ (by omega)
   have Q0:0≤Q:=by rw [hQ];exact Int.ediv_nonneg (by omega) (by omega)
   have Q1:Q<4294967296:=by
    have:=half_lt (y1:=Y/4294967296) (y0:=Y%4294967296) (U:=U) (u:=L/4294967296) (by omega) (by omega) b2
    rwa [aY,←hQ]at this
   rw [←hQ,←hV]at gQ
   rw [←hQ]
   have w4:IntKind.u64.wrap (IntKind.u64.wrap (IntKind.u64.wrap (U*4294967296)+L/4294967296)-IntKind.u64.wrap (Q*Y))=V:=by
    rw [Int.mul_comm Y Q]at gQ
    generalize Q*Y=QY at*
    rw [u64_mod,u64_mod,u64_mod,u64_mod]
    omega
   obtain⟨f1,f2⟩:=half_start a1 a2 a3 a4 V0 (by rw [aY];exact V1) b3 b4
   have q1:V/(Y/4294967296)<18446744073709551616:=by have:=f1.2.2.2.2;omega
   have w1:IntKind.u64.wrap (Int.tdiv V (Y/4294967296))=V/(Y/4294967296):=by rw [Int.tdiv_eq_ediv_of_nonneg V0,u64 f2 q1]
   have m1:=mul_range f2 (show V/(Y/4294967296)≤4294967297 from f1.2.2.2.2) (show 0≤Y/4294967296 by omega) (show Y/4294967296≤4294967295 by omega)
   have r1:V-V/(Y/4294967296)*(Y/4294967296)=V%(Y/4294967296):=by have:=f1.2.1;omega
   have w2:IntKind.u64.wrap (V/(Y/4294967296)*(Y/4294967296))=V/(Y/4294967296)*(Y/4294967296):=u64 m1.1 (by omega)
   have w3:IntKind.u64.wrap (V%(Y/4294967296))=V%(Y/4294967296):=u64 f1.2.2.1 (by have:=f1.2.2.2.1;omega)
   refine Ev.step (f:=fun k=>bits_Div64.l1 k Y (s:Int) (Y/4294967296) (Y%4294967296) (L%4294967296) Q (V%(Y/4294967296)) V (V/(Y/4294967296))) (fun k=>?_) ?_
   ·simp only [bits_Div64.j2]
    rw [if_neg (by omega),w4,w1,w2,r1,w3]
   ·obtain⟨d,hd⟩:∃d:Nat,V/(Y/4294967296)=(V*4294967296+L%4294967296)/(Y/4294967296*4294967296+Y%4294967296)+d:=⟨(V/(Y/4294967296)-(V*4294967296+L%4294967296)/(Y/4294967296*4294967296+Y%4294967296)).toNat,by have:=f1.1;omega⟩
    have fin:=div_l1 (y:=Y) (s:=(s:Int)) a1 a2 a3 a4 (by omega) V0 (by rw [aY];exact V1) b3 b4 (Q1:=Q) d _ _ hd f1
    rw [aY]at fin
    clear d hd f1 f2 q1 w1 m1 r1 w2 w3 w4
    obtain⟨q,hq⟩:∃q,q=(V*4294967296+L%4294967296)/Y:=⟨_,rfl⟩
    obtain⟨v,hv⟩:∃v,v=(V*4294967296+L%4294967296)%Y:=⟨_,rfl⟩
    have gq:=Int.emod_add_mul_ediv (V*4294967296+L%4294967296) Y
    have v0:0≤v:=by rw [hv];exact Int.emod_nonneg _ (by omega)
    have v1:v<Y:=by rw [hv];exact Int.emod_lt_of_pos _ (by omega)
    have q0:0≤q:=by rw [hq];exact Int.ediv_nonneg (by omega) (by omega)
    have q1:q<4294967296:=by
     have:=half_lt (y1:=Y/4294967296) (y0:=Y%4294967296) (U:=V) (u:=L%4294967296) (by omega) (by omega) b4
     rwa [aY,←hq]at this
    rw [←hq,←hv]at gq
    rw [←hq]at fin
    have w5:IntKind.u64.wrap (IntKind.u64.wrap (IntKind.u64.wrap (V*4294967296)+L%4294967296)-IntKind.u64.wrap (q*Y))=v:=by
     rw [Int.mul_comm Y q]at gq
     generalize q*Y=QY at*
     rw [u64_mod,u64_mod,u64_mod,u64_mod]
     omega
    have w6:IntKind.u64.wrap (IntKind.u64.wrap (Q*4294967296)+q)=Q*4294967296+q:=by
     rw [u64 (x:=Q*4294967296) (by omega) (by omega),u64 (by omega) (by omega)]
    rw [w5,w6,shr_eq _ _ (by omega)]at fin
    have hN:(h*18446744073709551616+l)*2^s=(Q*4294967296+q)*Y+v:=by
     rw [key,Int.add_mul,Int.mul_right_comm Q]
     rw [Int.mul_comm Y Q]at gQ
     rw [Int.mul_comm Y q]at gq
     generalize Q*Y=QY at*
     generalize q*Y=qY at*
     omega
    rw [hY,←Int.mul_assoc]at hN
    have hv':v=(h*18446744073709551616+l-(Q*4294967296+q)*y)*2^s:=by rw [Int.sub_mul];omega
    have hv2:v/2^s=h*18446744073709551616+l-(Q*4294967296+q)*y:=by rw [hv',Int.mul_ediv_cancel _ (by omega)]
    have hv3:0≤v/2^s:=Int.ediv_nonneg v0 (by omega)
    have hv4:v/2^s<y:=Int.ediv_lt_of_lt_mul hP (by rw [←hY];exact v1)
    have e:(h*18446744073709551616+l)/y=Q*4294967296+q∧(h*18446744073709551616+l)%y=v/2^s:=by
     have:h*18446744073709551616+l=v/2^s+y*(Q*4294967296+q):=by rw [hv2,Int.mul_comm y];omega
     constructor
     ·rw [this,Int.add_mul_ediv_left _ _ (by omega),Int.ediv_eq_zero_of_lt hv3 hv4,Int.zero_add]
     ·rw [this,Int.add_mul_emod_self_left,Int.emod_eq_of_lt hv3 hv4]
    rw [e.1,e.2]
    exact fin
theorem top_lt {x y:List Int} (hx:Dig B64 x) (hy:Dig B64 y) {i:Nat} (hi:i<x.length) (hi':i<y.length) (hd:vB B64 (x.drop (i+1))=vB B64 (y.drop (i+1))) (h:rd x (i:Int)<rd y (i:Int)):vB B64 x<vB B64 y:=by
 have hB:(0:Int)<B64:=by decide
 have hsx:=vB_split B64 x (i+1) (by omega)
 have hsy:=vB_split B64 y (i+1) (by omega)
 rw [take_succ]at hsx hsy
 have ax:=vB_lt hB (Dig_take hx i)
 rw [List.length_take,Nat.min_eq_left (by omega)]at ax
 have bb:=vB_nonneg (Int.le_of_lt hB) (Dig_take hy i)
 rw [hd]at hsx
 have hP:(0:Int)<B64^i:=Int.pow_pos hB
 rw [hsx,hsy]
 generalize vB B64 (x.take i)=X at*
 generalize vB B64 (y.take i)=Y at*
 generalize B64^(i+1)*vB B64 (y.drop (i+1))=Z at*
 generalize(B64:Int)^i=P at*
 generalize rd x (i:Int)=a at*
 generalize rd y (i:Int)=b at*
 have h1:=Int.mul_le_mul_of_nonneg_left (show a+1≤b by omega) (Int.le_of_lt hP)
 rw [Int.mul_add,Int.mul_one]at h1
 clear hsx hsy hd
 omega
theorem cmp_l0 (x y:List Int) (hx:Dig B64 x) (hy:Dig B64 y) (hl:x.length=y.length) (hs:x.length<9223372036854775808) {m n:Nat} (hm:vB B64 x=m) (hn:vB B64 y=n):∀i:Nat,i≤x.length→vB B64 (x.drop i)=vB B64 (y.drop i)→Ev (fun k=>exact_compareWords.l0 k x y ((i:Int)-1)) (cmpN m n):=by
 have hB:(0:Int)<B64:=by decide
 intro i
 induction i with
 |zero=>
  intro _ hd
  rw [List.drop_zero,List.drop_zero,hm,hn]at hd
  have e:m=n:=by omega
  subst e
  refine Ev.step (f:=fun _=>some 0) (fun k=>?_) (by
   have:cmpN m m=0:=by simp [cmpN]
   rw [this]
   exact Ev.now _)
  simp only [exact_compareWords.l0]
  rw [if_neg (by decide)]
 |succ i ih=>
  intro hi hd
  have e0:((i+1:Nat):Int)-1=(i:Int):=by omega
  have e1:wrap64 ((i:Int)-1)=(i:Int)-1:=w64 (by omega) (by omega)
  have c1:(i:Int)≥0:=by omega
  have c2:(i:Int)<(x.length:Int):=by omega
  have c3:(i:Int)<(y.length:Int):=by omega
  rw [e0]
  by_cases he:rd x (i:Int)=rd y (i:Int)
  ·refine Ev.step (f:=fun k=>exact_compareWords.l0 k x y ((i:Int)-1)) (fun k=>?_) (ih (by omega) ?_)
   ·simp only [exact_compareWords.l0,e1]
    rw [if_pos c1,if_pos c1,if_pos c2,if_pos c3,if_pos he]
   ·rw [List.drop_eq_getElem_cons (show i<x.length by omega),List.drop_eq_getElem_cons (show i<y.length by omega),vB_cons,vB_cons,hd,←rd_get x i (by omega),←rd_get y i (by omega),he]
  ·by_cases hab:rd x (i:Int)<rd y (i:Int)
   ·have h1:=top_lt hx hy (by omega) (by omega) hd hab
    have h2:m<n:=by rw [hm,hn]at h1;omega
    refine Ev.step (f:=fun _=>some (-1)) (fun k=>?_) (by
     have:cmpN m n= -1:=by unfold cmpN;rw [if_pos h2]
     rw [this]
     exact Ev.now _)
    simp only [exact_compareWords.l0,e1]
    rw [if_pos c1,if_pos c1,if_pos c2,if_pos c3,if_neg he,if_pos hab]
   ·have h1:=top_lt hy hx (by omega) (by omega) hd.symm (show rd y (i:Int)<rd x (i:Int)by omega)
    have h2:n<m:=by rw [hm,hn]at h1;omega
    refine Ev.step (f:=fun _=>some 1) (fun k=>?_) (by
     have:cmpN m n=1:=by unfold cmpN;rw [if_neg (by omega),if_neg (by omega)]
     rw [this]
     exact Ev.now _)
    simp only [exact_compareWords.l0,e1]
    rw [if_pos c1,if_pos c1,if_pos c2,if_pos c3,if_neg he,if_neg hab]
theorem compareWords_ev {m n:Nat} (hm:(d64 m).length≤1099511627776) (hn:(d64 n).length≤1099511627776):Ev (fun k=>exact_compareWords.f k (d64 m) (d64 n)) (cmpN m n):=by
 by_cases h1:(d64 m).length=(d64 n).length
 ·have:=cmp_l0 (d64 m) (d64 n) (d64_dig m) (d64_dig n) h1 (by omega) (d64_val m) (d64_val n) (d64 m).length (Nat.le_refl _) (by
   rw [List.drop_of_length_le (Nat.le_refl _),List.drop_of_length_le (by omega)])
  refine Ev.congr (fun k=>?_) this
  unfold exact_compareWords.f
  rw [if_pos (by omega),w64 (by omega) (by omega)]
 ·by_cases h2:(d64 m).length<(d64 n).length
  ·have h3:=trim_len (by decide) (d64_dig m) (d64_dig n) (d64_trim n) h2
   rw [d64_val,d64_val]at h3
   refine Ev.congr (f:=fun _=>some (-1)) (fun k=>?_) (by
    have:cmpN m n= -1:=by unfold cmpN;rw [if_pos (by omega)]
    rw [this]
    exact Ev.now _)
   unfold exact_compareWords.f
   rw [if_neg (by omega),if_pos (by omega)]
  ·have h3:=trim_len (by decide) (d64_dig n) (d64_dig m) (d64_trim m) (by omega)
   rw [d64_val,d64_val]at h3
   refine Ev.congr (f:=fun _=>some 1) (fun k=>?_) (by
    have:cmpN m n=1:=by unfold cmpN;rw [if_neg (by omega),if_neg (by omega)]
    rw [this]
    exact Ev.now _)
   unfold exact_compareWords.f
   rw [if_neg (by omega),if_neg (by omega)]
theorem word_shift {x:Int} (x0:0≤x) (x1:x<B64) (s:Nat) (hs:s≤63):x*2^s=(x*2^s)%B64+B64*(x/2^(64-s))∧0≤x/2^(64-s)∧x/2^(64-s)<2^s∧((x*2^s)%B64)%2^s=0:=by
 have hP:(0:Int)<2^s:=Int.pow_pos (by decide)
 have hR:(0:Int)<2^(64-s):=Int.pow_pos (by decide)
 have hPR:(2:Int)^(64-s)*2^s=B64:=by
  rw [←Int.pow_add]
  have:64-s+s=64:=by omega
  rw [this]
  rfl
 have g:=Int.emod_add_mul_ediv x (2^(64-s))
 have g0:=Int.emod_nonneg x (show(2:Int)^(64-s)≠0 by omega)
 have g1:=Int.emod_lt_of_pos x hR
 have g2:x*2^s=x%2^(64-s)*2^s+B64*(x/2^(64-s)):=by
  conv=>lhs;rw [←g]
  rw [Int.add_mul,Int.mul_right_comm,hPR]
 have g3:0≤x%2^(64-s)*2^s:=Int.mul_nonneg g0 (Int.le_of_lt hP)
 have g4:x%2^(64-s)*2^s<B64:=by
  have:=Int.mul_lt_mul_of_pos_right g1 hP
  rwa [hPR]at this
 have g5:(x*2^s)%B64=x%2^(64-s)*2^s:=by
  rw [g2,Int.add_mul_emod_self_left,Int.emod_eq_of_lt g3 g4]
 refine⟨by rw [g5];exact g2,Int.ediv_nonneg x0 (Int.le_of_lt hR),Int.ediv_lt_of_lt_mul hR (by rw [Int.mul_comm,hPR];exact x1),by rw [g5];exact Int.mul_emod_left _ _⟩
theorem bits_or_comm {x y:Int} (x0:0≤x) (x1:x<2^64) (y0:0≤y) (y1:y<2^64):Go.bits .or .u64 x y=Go.bits .or .u64 y x:=by
 obtain⟨a,rfl⟩:=Int.eq_ofNat_of_zero_le x0
 obtain⟨b,rfl⟩:=Int.eq_ofNat_of_zero_le y0
 have ha:a<2^64:=by omega
 have hb:b<2^64:=by omega
 rw [(bits_nat .u64 64 (by decide) wraps_u64 a b ha hb).2,(bits_nat .u64 64 (by decide) wraps_u64 b a hb ha).2,Nat.or_comm]
theorem bits_join2 (s:Nat) (hs:s≤64) {x y:Int} (x0:0≤x) (x1:x<2^s) (y0:0≤y) (y1:y<B64) (hy:y%2^s=0) (hxy:x+y<B64):Go.bits .or .u64 x y=x+y:=by
 have y1':y<2^64:=by simpa using y1
 have x2:x<2^64:=Int.lt_of_le_of_lt (by omega) hxy
 have:=bits_join .u64 64 (by decide) wraps_u64 s y x y0 hy y1' x0 x1 x2
 rw [Int.add_comm x y,←this]
 exact bits_or_comm x0 x2 y0 y1'
def ShiftOut (w out:List Int) (s i:Nat):Prop:=
 out.length=w.length+1∧Dig B64 out∧vB B64 out=vB B64 (w.take i)*2^s∧(rd out (i:Int)<2^s)∧∀j:Nat,i<j→rd out (j:Int)=0
theorem shift_out {w out:List Int} {s i:Nat} (hs:s≤63) (hw:Dig B64 w) (hi:i<w.length) (h:ShiftOut w out s i):
  ShiftOut w ((out.set i (rd out (i:Int)+(rd w (i:Int)*2^s)%B64)).set (i+1) (rd w (i:Int)/2^(64-s))) s (i+1)∧0≤rd out (i:Int)+(rd w (i:Int)*2^s)%B64∧rd out (i:Int)+(rd w (i:Int)*2^s)%B64<B64:=by
 obtain⟨hl,hd,hv,hr,hz⟩:=h
 obtain⟨x0,x1⟩:=Dig_rd hw i hi
 obtain⟨o0,o1⟩:=Dig_rd hd i (by omega)
 obtain⟨a1,a2,a3,a4⟩:=word_shift x0 x1 s hs
 have hP:(0:Int)<2^s:=Int.pow_pos (by decide)
 have m0:=Int.emod_nonneg (rd w (i:Int)*2^s) (show(B64:Int)≠0 by decide)
 have m1:=Int.emod_lt_of_pos (rd w (i:Int)*2^s) (show(0:Int)<B64 by decide)
 have hsum:rd out (i:Int)+(rd w (i:Int)*2^s)%B64<B64:=by
  obtain⟨c,hc⟩:∃c,c*2^s=B64:=⟨2^(64-s),by
   rw [←Int.pow_add]
   have:64-s+s=64:=by omega
   rw [this]
   rfl⟩
  have h1:=Int.emod_add_mul_ediv ((rd w (i:Int)*2^s)%B64) (2^s)
  rw [a4,Int.zero_add]at h1
  generalize((rd w (i:Int)*2^s)%B64)/2^s=e at*
  generalize(rd w (i:Int)*2^s)%B64=M at*
  rw [←h1,←hc]at m1
  have h2:e<c:=Int.lt_of_mul_lt_mul_right (by rwa [Int.mul_comm (2^s) e]at m1) (Int.le_of_lt hP)
  have h3:=Int.mul_le_mul_of_nonneg_right (show e+1≤c by omega) (Int.le_of_lt hP)
  rw [Int.add_mul,Int.one_mul,hc,Int.mul_comm e]at h3
  omega
 have hsum0:0≤rd out (i:Int)+(rd w (i:Int)*2^s)%B64:=by omega
 have hlt:rd w (i:Int)/2^(64-s)<B64:=by
  have:(2:Int)^s≤2^63:=pow_le_pow (by decide) hs
  have e:(2:Int)^63<B64:=by decide
  exact Int.lt_trans a3 (Int.lt_of_le_of_lt this e)
 refine⟨⟨by rw [List.length_set,List.length_set];exact hl,Dig_set (Dig_set hd _ hsum0 hsum) _ a2 hlt,?_,?_,fun j hj=>?_⟩,hsum0,hsum⟩
 ·have c1:i<out.length:=by omega
  have c2:i+1<(out.set i (rd out (i:Int)+(rd w (i:Int)*2^s)%B64)).length:=by rw [List.length_set];omega
  rw [vB_set _ _ _ _ c2,rd_set_ne _ _ _ _ (by omega),hz (i+1) (by omega),vB_set _ _ _ _ c1,hv,take_succ,Int.pow_succ,Int.sub_zero,Int.add_mul]
  have e1:rd out (i:Int)+rd w (i:Int)*2^s%B64-rd out (i:Int)=rd w (i:Int)*2^s%B64:=by omega
  rw [e1,Int.mul_assoc (B64^i) B64,Int.mul_assoc (B64^i) (rd w (i:Int)),a1,Int.mul_add,Int.add_assoc]
  congr 2
  rw [←a1]
 ·rw [rd_set_self _ _ _ (by rw [List.length_set];omega)]
  exact a3
 ·rw [rd_set_ne _ _ _ _ (by omega),rd_set_ne _ _ _ _ (by omega)]
  exact hz j (by omega)
theorem shiftUp_l0 (w:List Int) (hw:Dig B64 w) (lw:w.length≤1099511627776) (s:Nat) (hs:s≤63):∀(d i:Nat) (out:List Int),i+d=w.length→ShiftOut w out s i→
  ∃r,r.length=w.length+1∧Dig B64 r∧vB B64 r=vB B64 w*2^s∧Ev (fun k=>exact_shiftUp.l0 k (s:Int) out w (w.length:Int) (i:Int)) r:=by
 intro d
 induction d with
 |zero=>
  intro i out hi h
  obtain⟨hl,hd,hv,hr,hz⟩:=h
  have hi:i=w.length:=by omega
  subst hi
  refine⟨out,hl,hd,by rw [hv,vB_all _ _ _ (Nat.le_refl _)],Ev.step (f:=fun _=>some out) (fun k=>?_) (Ev.now _)⟩
  simp only [exact_shiftUp.l0]
  rw [if_neg (Int.lt_irrefl _)]
 |succ d ih=>
  intro i out hi h
  have hi':i<w.length:=by omega
  obtain⟨hn,n0,n1⟩:=shift_out hs hw hi' h
  have hl:=h.1
  have hr:=h.2.2.2.1
  obtain⟨o0,o1⟩:=Dig_rd h.2.1 i (by omega)
  have hz:=h.2.2.2.2 (i+1) (by omega)
  obtain⟨x0,x1⟩:=Dig_rd hw i hi'
  obtain⟨a1,a2,a3,a4⟩:=word_shift x0 x1 s hs
  have m0:=Int.emod_nonneg (rd w (i:Int)*2^s) (show(B64:Int)≠0 by decide)
  have m1:=Int.emod_lt_of_pos (rd w (i:Int)*2^s) (show(0:Int)<B64 by decide)
  have c1:(i:Int)<(w.length:Int):=Int.ofNat_lt.2 hi'
  have c2:(i:Int)<(out.length:Int):=by omega
  have c3:((i+1:Nat):Int)<(out.length:Int):=by omega
  have c4:i+1+d=w.length:=by omega
  obtain⟨r,r1,r2,r3,r4⟩:=ih (i+1) _ c4 hn
  refine⟨r,r1,r2,r3,Ev.step (f:=fun k=>exact_shiftUp.l0 k (s:Int) ((out.set i (rd out (i:Int)+(rd w (i:Int)*2^s)%B64)).set (i+1) (rd w (i:Int)/2^(64-s))) w (w.length:Int) ((i+1:Nat):Int)) (fun k=>?_) r4⟩
  have c5:¬(s:Int)>0→s=0:=by omega
  have g1:Go.bits .or .u64 (rd out (i:Int)) (shl .u64 (rd w (i:Int)) (s:Int))=rd out (i:Int)+(rd w (i:Int)*2^s)%B64:=by
   rw [shl_eq _ _ (by omega)]
   have:=bits_join2 s (by omega) o0 hr m0 m1 a4 n1
   exact this
  have g2:shr .u64 (rd w (i:Int)) ((64-s:Nat):Int)=rd w (i:Int)/2^(64-s):=shr_eq _ _ (by omega)
  have e1:wrap64 ((i:Int)+1)=((i+1:Nat):Int):=by clear a1 g1 g2;rw [w64 (by omega) (by omega)];omega
  have e2:wrap64 (64-(s:Int))=((64-s:Nat):Int):=by clear a1 g1 g2 e1;rw [w64 (by omega) (by omega)];omega
  simp only [exact_shiftUp.l0,e1,e2,g1,g2,Int.toNat_natCast,Option.bind_some]
  rw [if_pos c1,if_pos (Int.natCast_nonneg _),if_pos c1,if_pos c2,if_pos (Int.natCast_nonneg _)]
  by_cases hs0:(s:Int)>0
  ·rw [if_pos hs0,if_pos (Int.natCast_nonneg _),if_pos (Int.natCast_nonneg _),if_pos c3]
  ·rw [if_neg hs0]
   have hs1:=c5 hs0
   subst hs1
   have hq:rd w (i:Int)/2^(64-0)=0:=Int.ediv_eq_zero_of_lt x0 x1
   rw [hq]
   have:=set_eq (out.set i (rd out (i:Int)+(rd w (i:Int)*2^0)%B64)) (i+1) (by rw [List.length_set];clear a1 g1 g2 e1 e2;omega)
   rw [rd_set_ne _ _ _ _ (by clear a1 g1 g2 e1 e2;omega),hz]at this
   rw [this]
theorem shiftUp_ev (w:List Int) (hw:Dig B64 w) (lw:w.length≤1099511627776) (s:Nat) (hs:s≤63):∃r,r.length=w.length+1∧Dig B64 r∧vB B64 r=vB B64 w*2^s∧Ev (fun k=>exact_shiftUp.f k w (s:Int)) r:=by
 obtain⟨r,r1,r2,r3,r4⟩:=shiftUp_l0 w hw lw s hs w.length 0 (List.replicate (w.length+1) 0) (Nat.zero_add _) ⟨by simp,Dig_replicate (by decide) _,by rw [vB_replicate];simp [vB],by rw [rd_replicate];exact Int.pow_pos (by decide),fun j _=>rd_replicate _ _⟩
 refine⟨r,r1,r2,r3,Ev.congr (fun k=>?_) r4⟩
 unfold exact_shiftUp.f
 have e1:wrap64 ((w.length:Int)+1)=((w.length+1:Nat):Int):=by rw [w64 (by omega) (by omega)];omega
 rw [e1,if_pos (Int.natCast_nonneg _),Int.toNat_natCast,if_pos (by omega)]
 rfl
def SubMul (u v z:List Int) (q:Int) (i:Nat) (b c:Int):Prop:=
 z.length=u.length∧Dig B64 z∧(0≤b∧b≤1)∧(0≤c∧c<B64)∧vB B64 z+q*vB B64 (v.take i)=vB B64 u+B64^i*(b+c)
theorem sub_mul {u v z:List Int} {q b c d e:Int} {i:Nat} (hz:i<z.length) (q0:0≤q) (q1:q<B64) (hv:Dig B64 v) (hi:i<v.length) (h:SubMul u v z q i b c) (d0:0≤d) (d1:d<B64) (e0:0≤e) (e1:e≤1)
  (he:d=rd z (i:Int)-(q*rd v (i:Int)+0+c)%B64-b+B64*e):SubMul u v (z.set i d) q (i+1) e ((q*rd v (i:Int)+0+c)/B64):=by
 obtain⟨hl,hd,hb,hc,hs⟩:=h
 obtain⟨y0,y1⟩:=Dig_rd hv i hi
 obtain⟨-, -,n0,n1⟩:=mul_add q0 q1 y0 y1 (Int.le_refl 0) (by decide) hc.1 hc.2
 refine⟨by rw [List.length_set];exact hl,Dig_set hd _ d0 d1,⟨e0,e1⟩,⟨n0,n1⟩,?_⟩
 rw [vB_set _ _ _ _ hz,take_succ,Int.pow_succ,he]
 have g:=Int.emod_add_mul_ediv (q*rd v (i:Int)+0+c) B64
 generalize(q*rd v (i:Int)+0+c)/B64=C at*
 generalize(q*rd v (i:Int)+0+c)%B64=l at*
 have er:l=q*rd v (i:Int)+c-B64*C:=by clear hs;omega
 have e2:rd z (i:Int)-l-b+B64*e-rd z (i:Int)=B64*e+B64*C-q*rd v (i:Int)-c-b:=by clear hs;omega
 rw [e2]
 generalize rd v (i:Int)=y at*
 generalize vB B64 (List.take i v)=T at*
 generalize(B64:Int)^i=P at*
 rw [Int.mul_add q,Int.mul_left_comm q P y,Int.mul_sub,Int.mul_sub,Int.mul_sub,Int.mul_add,Int.mul_assoc P B64,Int.mul_add B64,Int.mul_add P]
 rw [Int.mul_add]at hs
 generalize q*y=qy at*
 generalize P*qy=A at*
 generalize P*(B64*e)=A1 at*
 generalize P*(B64*C)=A2 at*
 generalize P*c=A3 at*
 generalize P*b=A4 at*
 omega
def AddBack (u v z:List Int) (i:Nat) (c:Int):Prop:=
 z.length=u.length∧Dig B64 z∧(0≤c∧c≤1)∧vB B64 z+B64^i*c=vB B64 u+vB B64 (v.take i)
theorem add_back {u v z:List Int} {i:Nat} {c:Int} (hz:i<z.length) (hv:Dig B64 v) (hi:i<v.length) (h:AddBack u v z i c):
  AddBack u v (z.set i ((rd z (i:Int)+rd v (i:Int)+c)%B64)) (i+1) ((rd z (i:Int)+rd v (i:Int)+c)/B64):=by
 obtain⟨hl,hd,hc,hs⟩:=h
 obtain⟨x0,x1⟩:=Dig_rd hd i hz
 obtain⟨y0,y1⟩:=Dig_rd hv i hi
 refine⟨by rw [List.length_set];exact hl,Dig_set hd _ (Int.emod_nonneg _ (by decide)) (Int.emod_lt_of_pos _ (by decide)),add_range x0 x1 y0 y1 hc.1 hc.2,?_⟩
 rw [vB_set _ _ _ _ hz,take_succ,Int.pow_succ]
 have e:=Int.emod_add_mul_ediv (rd z (i:Int)+rd v (i:Int)+c) B64
 generalize(rd z (i:Int)+rd v (i:Int)+c)/B64=q at*
 generalize(rd z (i:Int)+rd v (i:Int)+c)%B64=r at*
 have er:r-rd z (i:Int)=rd v (i:Int)+c-B64*q:=by clear hs;omega
 rw [er,Int.mul_sub,Int.mul_add,Int.mul_assoc (B64^i) B64 q]
 generalize(B64:Int)^i=P at*
 omega
theorem back_last {u v z:List Int} {n:Nat} {c U q:Int} (hn:v.length=n) (hl:u.length=n+1) (h:AddBack u v z n c) (hu:vB B64 u=U-q*vB B64 v+B64^(n+1)) (h0:0≤U-(q-1)*vB B64 v) (h1:U-(q-1)*vB B64 v<B64^(n+1)):
  vB B64 (z.set n (IntKind.u64.wrap (rd z (n:Int)+c)))=U-(q-1)*vB B64 v∧Dig B64 (z.set n (IntKind.u64.wrap (rd z (n:Int)+c))):=by
 obtain⟨hlz,hd,hc,hs⟩:=h
 have hz:n<z.length:=by omega
 obtain⟨x0,x1⟩:=Dig_rd hd n hz
 have hdd:Dig B64 (z.set n (IntKind.u64.wrap (rd z (n:Int)+c))):=Dig_set hd _ (by rw [u64_mod];exact Int.emod_nonneg _ (by decide)) (by rw [u64_mod];exact Int.emod_lt_of_pos _ (by decide))
 refine⟨?_,hdd⟩
 have b0:=vB_nonneg (by decide) hdd
 have b1:=vB_lt (by decide) hdd
 rw [List.length_set,hlz,hl]at b1
 rw [vB_set _ _ _ _ hz]at b0 b1⊢
 rw [vB_all _ _ _ (by rw [hn];exact Nat.le_refl _)]at hs
 rw [u64_mod]at b0 b1⊢
 rw [Int.sub_mul,Int.one_mul]at h0 h1⊢
 have e:=Int.emod_add_mul_ediv (rd z (n:Int)+c) 18446744073709551616
 have x1':rd z (n:Int)<18446744073709551616:=x1
 have he:(rd z (n:Int)+c)/18446744073709551616=0∨(rd z (n:Int)+c)/18446744073709551616=1:=by clear hs hu h0 h1 b0 b1;omega
 have hBB:(B64:Int)^(n+1)=B64^n*18446744073709551616:=Int.pow_succ _ _
 rw [hBB]at hu h1 b1
 clear hBB hdd hd
 generalize(rd z (n:Int)+c)/18446744073709551616=E at*
 generalize(rd z (n:Int)+c)%18446744073709551616=r at*
 have er:r-rd z (n:Int)=c-18446744073709551616*E:=by clear hs hu h0 h1 b0 b1;omega
 rw [er,Int.mul_sub]at b0 b1⊢
 clear er e
 generalize(B64:Int)^n=P at*
 generalize q*vB B64 v=qV at*
 generalize P*c=Pc at*
 rcases he with rfl|rfl
 ·simp only [Int.mul_zero,Int.sub_zero]at b0 b1⊢
  omega
 ·simp only [Int.mul_one]at b0 b1⊢
  omega
theorem step_l2 {u v:List Int} {n:Nat} {q U:Int} (hn:v.length=n) (ln:n≤1099511627776) (hv:Dig B64 v) (hl:u.length=n+1) (hu:vB B64 u=U-q*vB B64 v+B64^(n+1)) (h0:0≤U-(q-1)*vB B64 v) (h1:U-(q-1)*vB B64 v<B64^(n+1)) (q0:1≤q) (q1:q<B64):
  ∀(d i:Nat) (z:List Int) (c:Int),i+d=n→AddBack u v z i c→∃r,r.length=n+1∧Dig B64 r∧vB B64 r=U-(q-1)*vB B64 v∧Ev (fun k=>exact_step.l2 k z v (n:Int) q c (n:Int) (i:Int)) (q-1,r):=by
 intro d
 induction d with
 |zero=>
  intro i z c hi h
  have hi:i=n:=by omega
  subst hi
  obtain⟨g1,g2⟩:=back_last hn hl h hu h0 h1
  have hlz:=h.1
  have c1:(i:Int)<(z.length:Int):=by omega
  have q1':q<18446744073709551616:=q1
  have w1:IntKind.u64.wrap (q-1)=q-1:=by clear hu h0 h1 g1;exact u64 (by omega) (by omega)
  refine⟨_,by rw [List.length_set,hlz,hl],g2,g1,Ev.step (f:=fun _=>some _) (fun k=>?_) (Ev.now _)⟩
  simp only [exact_step.l2,w1]
  rw [if_neg (Int.lt_irrefl _),if_pos (Int.natCast_nonneg _),if_pos c1,Int.toNat_natCast]
 |succ d ih=>
  intro i z c hi h
  have hi':i<n:=by omega
  have hlz:=h.1
  have hiz:i<z.length:=by omega
  have c0:i+1+d=n:=by omega
  have c1:(i:Int)<(n:Int):=by omega
  have c2:(i:Int)<(z.length:Int):=by omega
  have c3:(i:Int)<(v.length:Int):=by omega
  obtain⟨x0,x1⟩:=Dig_rd h.2.1 i hiz
  obtain⟨y0,y1⟩:=Dig_rd hv i (by omega)
  have ea:=add64_eq x0 y0 h.2.2.1.1 h.2.2.1.2
  have e1:wrap64 ((i:Int)+1)=((i+1:Nat):Int):=by clear hu h0 h1;rw [w64 (by omega) (by omega)];omega
  obtain⟨r,r1,r2,r3,r4⟩:=ih (i+1) _ _ c0 (add_back hiz hv (by rw [hn];exact hi') h)
  refine⟨r,r1,r2,r3,Ev.step (fun k=>?_) r4⟩
  simp only [exact_step.l2,e1]
  rw [if_pos c1,if_pos (Int.natCast_nonneg _),if_pos c2,if_pos c3,ea,Option.bind_some,Int.toNat_natCast]
theorem sub_last {u v z:List Int} {n:Nat} {q b c d e:Int} (hn:v.length=n) (hl:u.length=n+1) (h:SubMul u v z q n b c) (d0:0≤d) (d1:d<B64) (e0:0≤e) (e1:e≤1) (he:d=rd z (n:Int)-c-b+B64*e):
  (z.set n d).length=n+1∧Dig B64 (z.set n d)∧vB B64 (z.set n d)=vB B64 u-q*vB B64 v+B64^(n+1)*e:=by
 obtain⟨hlz,hd,hb,hc,hs⟩:=h
 refine⟨by rw [List.length_set,hlz,hl],Dig_set hd _ d0 d1,?_⟩
 rw [vB_set _ _ _ _ (by omega),Int.pow_succ,he]
 rw [vB_all _ _ _ (by rw [hn];exact Nat.le_refl _)]at hs
 have e2:rd z (n:Int)-c-b+B64*e-rd z (n:Int)=B64*e-c-b:=by clear hs;omega
 rw [e2,Int.mul_sub,Int.mul_sub,Int.mul_assoc (B64^n) B64]
 rw [Int.mul_add]at hs
 generalize(B64:Int)^n=P at*
 generalize P*(B64*e)=A1 at*
 generalize P*c=A3 at*
 generalize P*b=A4 at*
 omega
theorem step_l1 {u v:List Int} {n:Nat} {q:Int} (hn:v.length=n) (ln:n≤1099511627776) (hu:Dig B64 u) (hv:Dig B64 v) (hl:u.length=n+1) (hV:0<vB B64 v) (q0:0≤q) (q1:q<B64)
  (hq:vB B64 u/vB B64 v≤q) (hq':q≤vB B64 u/vB B64 v+1):∀(d i:Nat) (z:List Int) (b c:Int),i+d=n→SubMul u v z q i b c→
  ∃r,r.length=n+1∧Dig B64 r∧vB B64 r=vB B64 u%vB B64 v∧Ev (fun k=>exact_step.l1 k z v (n:Int) q b c (n:Int) (i:Int)) (vB B64 u/vB B64 v,r):=by
 have hB:(0:Int)<B64:=by decide
 have hU0:=vB_nonneg (Int.le_of_lt hB) hu
 have hU1:=vB_lt hB hu
 have hV1:=vB_lt hB hv
 rw [hl]at hU1
 rw [hn]at hV1
 have hdm:=Int.emod_add_mul_ediv (vB B64 u) (vB B64 v)
 have hm0:=Int.emod_nonneg (vB B64 u) (show vB B64 v≠0 by omega)
 have hm1:=Int.emod_lt_of_pos (vB B64 u) hV
 have hp:=pow_le_pow hB (show n≤n+1 by omega)
 intro d
 induction d with
 |zero=>
  intro i z b c hi h
  have hi:i=n:=by omega
  subst hi
  have hlz:=h.1
  have c1:(i:Int)<(z.length:Int):=by clear hU1 hV1 hp;omega
  obtain⟨x0,x1⟩:=Dig_rd h.2.1 i (by clear hU1 hV1 hp;omega)
  obtain⟨d,e,ea,d0,d1,b0,b1,he⟩:=sub64_eq x0 x1 h.2.2.2.1.1 h.2.2.2.1.2 h.2.2.1.1 h.2.2.1.2
  obtain⟨g1,g2,g3⟩:=sub_last hn hl h d0 d1 b0 b1 he
  have hcase:e=0∨e=1:=by clear hU1 hV1 hp g3;omega
  rcases hcase with rfl|rfl
  ·rw [Int.mul_zero,Int.add_zero]at g3
   have g4:=vB_nonneg (Int.le_of_lt hB) g2
   rw [g3]at g4
   have hqe:q=vB B64 u/vB B64 v:=by
    have:q≤vB B64 u/vB B64 v:=Int.le_ediv_of_mul_le hV (by clear hU1 hV1 hp;omega)
    clear hU1 hV1 hp;omega
   refine⟨z.set i d,g1,g2,?_,Ev.step (f:=fun _=>some _) (fun k=>?_) (Ev.now _)⟩
   ·rw [g3,hqe]
    rw [Int.mul_comm]at hdm
    generalize vB B64 u/vB B64 v*vB B64 v=A at*
    clear hU1 hV1 hp;omega
   ·simp only [exact_step.l1]
    rw [if_neg (Int.lt_irrefl _),if_pos (Int.natCast_nonneg _),if_pos c1,ea,Option.bind_some,Option.bind_some,if_pos rfl,Int.toNat_natCast,←hqe]
  ·rw [Int.mul_one]at g3
   have g4:=vB_lt hB g2
   rw [g1,g3]at g4
   have hqe:vB B64 u/vB B64 v=q-1:=by
    have:vB B64 u/vB B64 v<q:=Int.ediv_lt_of_lt_mul hV (by
     generalize(B64:Int)^(i+1)=P at*
     omega)
    clear hU1 hV1 hp g4 g3;omega
   have hre:vB B64 u-(q-1)*vB B64 v=vB B64 u%vB B64 v:=by
    rw [hqe,Int.mul_comm]at hdm
    generalize(q-1)*vB B64 v=A at*
    clear hU1 hV1 hp g4 g3;omega
   have hq00:0≤vB B64 u/vB B64 v:=Int.ediv_nonneg hU0 (Int.le_of_lt hV)
   have hq01:1≤q:=by clear hU1 hV1 hp g4 g3;omega
   obtain⟨r,r1,r2,r3,r4⟩:=step_l2 (u:=z.set i d) (U:=vB B64 u) hn ln hv g1 g3 (by rw [hre];exact hm0) (by rw [hre];exact Int.lt_trans hm1 (Int.lt_of_lt_of_le hV1 hp)) hq01 q1 i 0 (z.set i d) 0 (Nat.zero_add _) ⟨rfl,g2,⟨by decide,by decide⟩,by simp [vB]⟩
   refine⟨r,r1,r2,by rw [r3,hre],?_⟩
   rw [hqe]
   refine Ev.step (f:=fun k=>exact_step.l2 k (z.set i d) v (i:Int) q 0 (i:Int) ((0:Nat):Int)) (fun k=>?_) r4
   simp only [exact_step.l1]
   rw [if_neg (Int.lt_irrefl _),if_pos (Int.natCast_nonneg _),if_pos c1,ea,Option.bind_some,Option.bind_some,if_neg (show¬(1:Int)=0 by decide),Int.toNat_natCast]
   rfl
 |succ d ih=>
  intro i z b c hi h
  have hlz:=h.1
  have hi':i<n:=by clear hU1 hV1 hp;omega
  have hiz:i<z.length:=by clear hU1 hV1 hp;omega
  have c0:i+1+d=n:=by clear hU1 hV1 hp;omega
  have c1:(i:Int)<(n:Int):=Int.ofNat_lt.2 hi'
  have c2:(i:Int)<(z.length:Int):=Int.ofNat_lt.2 hiz
  have c3:(i:Int)<(v.length:Int):=by rw [hn];exact c1
  have hiv:i<v.length:=by rw [hn];exact hi'
  obtain⟨x0,x1⟩:=Dig_rd h.2.1 i hiz
  obtain⟨y0,y1⟩:=Dig_rd hv i hiv
  have hc:=h.2.2.2.1
  have hb:=h.2.2.1
  obtain⟨m0,m1,n0,n1⟩:=mul_add q0 q1 y0 y1 (Int.le_refl 0) hB hc.1 hc.2
  have a1:=mul64_eq q0 q1 y0 y1
  have a2:=add64_eq (Int.emod_nonneg (q*rd v (i:Int)) (show(B64:Int)≠0 by decide)) hc.1 (Int.le_refl 0) (by decide)
  have l0:=Int.emod_nonneg (q*rd v (i:Int)+0+c) (show(B64:Int)≠0 by decide)
  have l1:=Int.emod_lt_of_pos (q*rd v (i:Int)+0+c) (show(0:Int)<B64 by decide)
  obtain⟨d,e,ea,d0,d1,b0,b1,he⟩:=sub64_eq x0 x1 l0 l1 hb.1 hb.2
  have e1:wrap64 ((i:Int)+1)=((i+1:Nat):Int):=by clear hU1 hV1 hp a1 a2 m0 m1 ea he hdm;rw [w64 (by omega) (by omega)];omega
  have e2:(q*rd v (i:Int)%B64+c+0)%B64=(q*rd v (i:Int)+0+c)%B64∧IntKind.u64.wrap (q*rd v (i:Int)/B64+(q*rd v (i:Int)%B64+c+0)/B64)=(q*rd v (i:Int)+0+c)/B64:=by
   clear hU1 hV1 hp a1 a2 ea he hdm m0 m1
   have hc2:c<18446744073709551616:=hc.2
   have n0':0≤(q*rd v (i:Int)+0+c)/18446744073709551616:=n0
   have n1':(q*rd v (i:Int)+0+c)/18446744073709551616<18446744073709551616:=n1
   have hc1:=hc.1
   show(q*rd v (i:Int)%18446744073709551616+c+0)%18446744073709551616=(q*rd v (i:Int)+0+c)%18446744073709551616∧IntKind.u64.wrap (q*rd v (i:Int)/18446744073709551616+(q*rd v (i:Int)%18446744073709551616+c+0)/18446744073709551616)=(q*rd v (i:Int)+0+c)/18446744073709551616
   generalize q*rd v (i:Int)=p at*
   have e3:p/18446744073709551616+(p%18446744073709551616+c+0)/18446744073709551616=(p+0+c)/18446744073709551616:=by omega
   rw [e3,u64 n0' n1']
   exact⟨by omega,rfl⟩
  obtain⟨r,r1,r2,r3,r4⟩:=ih (i+1) _ _ _ c0 (sub_mul hiz q0 q1 hv hiv h d0 d1 b0 b1 he)
  refine⟨r,r1,r2,r3,Ev.step (fun k=>?_) r4⟩
  simp only [exact_step.l1,e1]
  rw [if_pos c1,if_pos (Int.natCast_nonneg _),if_pos c3,a1,Option.bind_some,a2,Option.bind_some,if_pos c2,e2.1,ea,Option.bind_some,e2.2,Int.toNat_natCast]
theorem split2 {v:List Int} {n:Nat} (hv:Dig B64 v) (hn:v.length=n+2):∃l,0≤l∧l<B64^n∧vB B64 v=l+B64^n*(rd v (n:Int)+B64*rd v ((n+1:Nat):Int)):=by
 refine⟨vB B64 (v.take n),vB_nonneg (by decide) (Dig_take hv _),?_,?_⟩
 ·have:=vB_lt (by decide) (Dig_take hv n)
  rwa [List.length_take,Nat.min_eq_left (by omega)]at this
 ·have h:=vB_all B64 v (n+1+1) (by omega)
  rw [←h,take_succ,take_succ,Int.pow_succ,Int.mul_add,Int.mul_assoc,Int.add_assoc]
theorem split3 {u:List Int} {n:Nat} (hu:Dig B64 u) (hn:u.length=n+3):∃l,0≤l∧l<B64^n∧vB B64 u=l+B64^n*(rd u (n:Int)+B64*(rd u ((n+1:Nat):Int)+B64*rd u ((n+2:Nat):Int))):=by
 refine⟨vB B64 (u.take n),vB_nonneg (by decide) (Dig_take hu _),?_,?_⟩
 ·have:=vB_lt (by decide) (Dig_take hu n)
  rwa [List.length_take,Nat.min_eq_left (by omega)]at this
 ·have h:=vB_all B64 u (n+1+1+1) (by omega)
  have p1:(B64:Int)^(n+1)=B64^n*B64:=Int.pow_succ _ _
  have p2:(B64:Int)^(n+1+1)=B64^n*B64*B64:=by rw [Int.pow_succ,p1]
  rw [←h,take_succ,take_succ,take_succ,p2,p1,Int.mul_add B64,Int.mul_add (B64^n),Int.mul_add (B64^n),Int.mul_assoc (B64^n) B64 (rd u _),Int.mul_assoc (B64^n*B64) B64,Int.mul_assoc (B64^n) B64 (B64*_)]
  generalize B64^n*rd u (n:Int)=a
  generalize B64^n*(B64*rd u ((n+1:Nat):Int))=b
  generalize B64^n*(B64*(B64*rd u ((n+2:Nat):Int)))=c
  omega
section
theorem guess_le {P lv lu W X q U V:Int} (hP:0<P) (lv0:0≤lv) (lv1:lv<P) (lu0:0≤lu) (hV:V=lv+P*W) (hU:U=lu+P*X) (hW:B64≤W) (q0:0≤q) (q1:q<B64) (h:q*W≤X):q≤U/V+1:=by
 have hV0:0<V:=by
  have:0<P*W:=Int.mul_pos hP (Int.lt_of_lt_of_le (by decide) hW)
  omega
 have h1:q*V<U+V:=by
  have e1:q*V=q*lv+P*(q*W):=by rw [hV,Int.mul_add,Int.mul_left_comm]
  have e2:P*(q*W)≤P*X:=Int.mul_le_mul_of_nonneg_left h (Int.le_of_lt hP)
  have e3:q*lv≤q*P:=Int.mul_le_mul_of_nonneg_left (Int.le_of_lt lv1) q0
  have e4:q*P<B64*P:=Int.mul_lt_mul_of_pos_right q1 hP
  have e5:P*B64≤P*W:=Int.mul_le_mul_of_nonneg_left hW (Int.le_of_lt hP)
  rw [Int.mul_comm B64 P]at e4
  omega
 have h2:(q-1)*V≤U:=by rw [Int.sub_mul,Int.one_mul];omega
 have:=Int.le_ediv_of_mul_le hV0 h2
 omega
theorem guess_gt {P lv lu W X q U V:Int} (hP:0<P) (lv0:0≤lv) (lu1:lu<P) (hV:V=lv+P*W) (hU:U=lu+P*X) (hV0:0<V) (q0:0≤q) (h:X<q*W):U/V≤q-1:=by
 have:U/V<q:=by
  apply Int.ediv_lt_of_lt_mul hV0
  have e1:q*V=q*lv+P*(q*W):=by rw [hV,Int.mul_add,Int.mul_left_comm]
  have e2:P*(X+1)≤P*(q*W):=Int.mul_le_mul_of_nonneg_left (by omega) (Int.le_of_lt hP)
  rw [Int.mul_add,Int.mul_one]at e2
  have e3:0≤q*lv:=Int.mul_nonneg q0 lv0
  omega
 omega
end
theorem l0_pass {u v:List Int} {n:Nat} {q r o:Int} (hn:v.length=n+2) (hl:u.length=n+3) (ew:wrap64 (((n+2:Nat):Int)-2)=((n:Nat):Int)) (q0:0≤q) (q1:q<B64) (w0:0≤rd v (n:Int)) (w1:rd v (n:Int)<B64) (t0:0≤rd u (n:Int)) (t1:rd u (n:Int)<B64)
  (h:o=1∨o=0∧q*rd v (n:Int)≤B64*r+rd u (n:Int)) (k:Nat):exact_step.l0 (k+1) u v ((n+2:Nat):Int) q r o=exact_step.j2 k u v ((n+2:Nat):Int) q:=by
 rcases h with rfl| ⟨rfl,h⟩
 ·simp only [exact_step.l0]
  rw [if_neg (show¬(1:Int)=0 by decide)]
 ·have c1:(n:Int)<(v.length:Int):=by clear h ew;omega
  have c2:(n:Int)<(u.length:Int):=by clear h ew;omega
  have t1':rd u (n:Int)<18446744073709551616:=t1
  have h':q*rd v (n:Int)≤18446744073709551616*r+rd u (n:Int):=h
  have e:=Int.emod_add_mul_ediv (q*rd v (n:Int)) 18446744073709551616
  have m0:=Int.emod_nonneg (q*rd v (n:Int)) (show(18446744073709551616:Int)≠0 by decide)
  have g:q*rd v (n:Int)/18446744073709551616<r∨q*rd v (n:Int)/18446744073709551616=r∧q*rd v (n:Int)%18446744073709551616≤rd u (n:Int):=by clear h ew;omega
  have a1:=mul64_eq q0 q1 w0 w1
  simp only [exact_step.l0,ew]
  rw [if_pos trivial,if_pos (Int.natCast_nonneg _),if_pos c1,a1,Option.bind_some]
  rcases g with g| ⟨g1,g2⟩
  ·rw [if_pos g]
  ·rw [if_neg (show¬q*rd v (n:Int)/18446744073709551616<r by clear h ew;omega),if_pos g1,if_pos c2,if_pos g2]
theorem l0_fail {u v:List Int} {n:Nat} {q r:Int} (hn:v.length=n+2) (hl:u.length=n+3) (ew:wrap64 (((n+2:Nat):Int)-2)=((n:Nat):Int)) (ew1:wrap64 (((n+2:Nat):Int)-1)=((n+1:Nat):Int)) (q0:1≤q) (q1:q<B64) (r0:0≤r) (w0:0≤rd v (n:Int)) (w1:rd v (n:Int)<B64) (t0:0≤rd u (n:Int)) (t1:rd u (n:Int)<B64) (y0:0≤rd v ((n+1:Nat):Int))
  (h:¬q*rd v (n:Int)≤B64*r+rd u (n:Int)) (k:Nat):exact_step.l0 (k+1) u v ((n+2:Nat):Int) q r 0=exact_step.l0 k u v ((n+2:Nat):Int) (q-1) ((r+rd v ((n+1:Nat):Int)+0)%B64) ((r+rd v ((n+1:Nat):Int)+0)/B64):=by
 have c1:(n:Int)<(v.length:Int):=by clear h ew ew1;omega
 have c2:(n:Int)<(u.length:Int):=by clear h ew ew1;omega
 have c3:((n+1:Nat):Int)<(v.length:Int):=by clear h ew ew1;omega
 have t1':rd u (n:Int)<18446744073709551616:=t1
 have q1':q<18446744073709551616:=q1
 have h':¬q*rd v (n:Int)≤18446744073709551616*r+rd u (n:Int):=h
 have e:=Int.emod_add_mul_ediv (q*rd v (n:Int)) 18446744073709551616
 have m0:=Int.emod_lt_of_pos (q*rd v (n:Int)) (show(0:Int)<18446744073709551616 by decide)
 have g1:¬q*rd v (n:Int)/18446744073709551616<r:=by clear h ew ew1;omega
 have g2:q*rd v (n:Int)/18446744073709551616=r→¬q*rd v (n:Int)%18446744073709551616≤rd u (n:Int):=by clear h ew ew1;omega
 have a1:=mul64_eq (show 0≤q by omega) q1 w0 w1
 have a2:=add64_eq r0 y0 (Int.le_refl 0) (by decide)
 have wq:IntKind.u64.wrap (q-1)=q-1:=by clear h h' ew ew1 g1 g2 e;exact u64 (by omega) (by omega)
 conv=>lhs;simp only [exact_step.l0,ew,ew1,wq]
 rw [if_pos trivial,if_pos (Int.natCast_nonneg _),if_pos c1,a1,Option.bind_some,if_neg g1]
 by_cases g3:q*rd v (n:Int)/18446744073709551616=r
 ·rw [if_pos g3,if_pos c2,if_neg (g2 g3),if_pos (Int.natCast_nonneg _),if_pos c3,a2,Option.bind_some]
 ·rw [if_neg g3,if_pos (Int.natCast_nonneg _),if_pos c3,a2,Option.bind_some]
theorem step_l0 {u v:List Int} {n:Nat} (hn:v.length=n+2) (ln:n≤1099511627000) (hu:Dig B64 u) (hv:Dig B64 v) (hl:u.length=n+3) (ht:rd v ((n+1:Nat):Int)≠0):
  ∀(d:Nat) (q r o:Int),q=vB B64 u/vB B64 v+d→0≤q→q<B64→0≤r→r<B64→(o=0∨o=1)→q*rd v ((n+1:Nat):Int)+(r+B64*o)=rd u ((n+1:Nat):Int)+B64*rd u ((n+2:Nat):Int)→
  ∃z,z.length=n+3∧Dig B64 z∧vB B64 z=vB B64 u%vB B64 v∧Ev (fun k=>exact_step.l0 k u v ((n+2:Nat):Int) q r o) (vB B64 u/vB B64 v,z):=by
 have hB:(0:Int)<B64:=by decide
 obtain⟨lv,lv0,lv1,eV⟩:=split2 hv hn
 obtain⟨lu,lu0,lu1,eU⟩:=split3 hu hl
 have hP:(0:Int)<B64^n:=Int.pow_pos hB
 obtain⟨y0,y1⟩:=Dig_rd hv (n+1) (by clear lv1 lu1 eV eU;omega)
 obtain⟨w0,w1⟩:=Dig_rd hv n (by clear lv1 lu1 eV eU;omega)
 obtain⟨t0,t1⟩:=Dig_rd hu n (by clear lv1 lu1 eV eU;omega)
 have hW:B64≤rd v (n:Int)+B64*rd v ((n+1:Nat):Int):=by
  have:B64*1≤B64*rd v ((n+1:Nat):Int):=Int.mul_le_mul_of_nonneg_left (by clear lv1 lu1 eV eU;omega) (Int.le_of_lt hB)
  rw [Int.mul_one]at this
  clear lv1 lu1 eV eU;omega
 have hV0:0<vB B64 v:=by
  have:0<B64^n*(rd v (n:Int)+B64*rd v ((n+1:Nat):Int)):=Int.mul_pos hP (Int.lt_of_lt_of_le hB hW)
  generalize B64^n*(rd v (n:Int)+B64*rd v ((n+1:Nat):Int))=A at*
  clear lv1 lu1 eU;omega
 have hQ0:0≤vB B64 u/vB B64 v:=Int.ediv_nonneg (vB_nonneg (Int.le_of_lt hB) hu) (Int.le_of_lt hV0)
 have ew:wrap64 (((n+2:Nat):Int)-2)=((n:Nat):Int):=by clear lv1 lu1 eV eU;rw [w64 (by omega) (by omega)];omega
 have ew1:wrap64 (((n+2:Nat):Int)-1)=((n+1:Nat):Int):=by clear lv1 lu1 eV eU ew;rw [w64 (by omega) (by omega)];omega
 have done:∀q:Int,vB B64 u/vB B64 v≤q→0≤q→q<B64→q*(rd v (n:Int)+B64*rd v ((n+1:Nat):Int))≤rd u (n:Int)+B64*(rd u ((n+1:Nat):Int)+B64*rd u ((n+2:Nat):Int))→
   ∃z,z.length=n+3∧Dig B64 z∧vB B64 z=vB B64 u%vB B64 v∧Ev (fun k=>exact_step.j2 k u v ((n+2:Nat):Int) q) (vB B64 u/vB B64 v,z):=by
  intro q g1 q0 q1 g2
  have g3:=guess_le hP lv0 lv1 lu0 eV eU hW q0 q1 g2
  obtain⟨z,z1,z2,z3,z4⟩:=step_l1 hn (by clear lv1 lu1 eV eU ew ew1;omega) hu hv hl hV0 q0 q1 g1 g3 (n+2) 0 u 0 0 (Nat.zero_add _) ⟨rfl,hu,⟨by decide,by decide⟩,⟨by decide,hB⟩,by simp [vB]⟩
  exact⟨z,z1,z2,z3,Ev.step (f:=fun k=>exact_step.l1 k u v ((n+2:Nat):Int) q 0 0 ((n+2:Nat):Int) ((0:Nat):Int)) (fun k=>rfl) z4⟩
 have test:∀q r:Int,q*rd v ((n+1:Nat):Int)+r=rd u ((n+1:Nat):Int)+B64*rd u ((n+2:Nat):Int)→(q*rd v (n:Int)≤B64*r+rd u (n:Int)↔q*(rd v (n:Int)+B64*rd v ((n+1:Nat):Int))≤rd u (n:Int)+B64*(rd u ((n+1:Nat):Int)+B64*rd u ((n+2:Nat):Int))):=by
  intro q r he
  rw [←he,Int.mul_add q,Int.mul_left_comm q B64,Int.mul_add B64]
  generalize q*rd v ((n+1:Nat):Int)=a
  generalize q*rd v (n:Int)=b
  clear lv1 lu1 eV eU ew ew1
  omega
 intro d
 induction d with
 |zero=>
  intro q r o hq q0 q1 r0 r1 ho he
  have hq:vB B64 u/vB B64 v=q:=by omega
  have hle:q*rd v (n:Int)≤B64*(r+B64*o)+rd u (n:Int):=by
   rw [test q (r+B64*o) he]
   rcases Int.lt_or_le (rd u (n:Int)+B64*(rd u ((n+1:Nat):Int)+B64*rd u ((n+2:Nat):Int))) (q*(rd v (n:Int)+B64*rd v ((n+1:Nat):Int)))with h|h
   ·have:=guess_gt hP lv0 lu1 eV eU hV0 q0 h
    omega
   ·exact h
  obtain⟨z,z1,z2,z3,z4⟩:=done q (by omega) q0 q1 ((test q _ he).1 hle)
  refine⟨z,z1,z2,z3,Ev.step (fun k=>l0_pass hn hl ew q0 q1 w0 w1 t0 t1 ?_ k) z4⟩
  rcases ho with rfl|rfl
  ·right
   rw [Int.mul_zero,Int.add_zero]at hle
   exact⟨rfl,hle⟩
  ·exact Or.inl rfl
 |succ d ih=>
  intro q r o hq q0 q1 r0 r1 ho he
  by_cases hp:o=1∨o=0∧q*rd v (n:Int)≤B64*r+rd u (n:Int)
  ·have hle:q*rd v (n:Int)≤B64*(r+B64*o)+rd u (n:Int):=by
    rcases hp with rfl| ⟨rfl,h⟩
    ·have q1':q<18446744073709551616:=q1
     have w1':rd v (n:Int)<18446744073709551616:=w1
     have h1:=mul_range q0 (show q≤18446744073709551615 by omega) w0 (show rd v (n:Int)≤18446744073709551615 by omega)
     have h2:(18446744073709551615:Int)*18446744073709551615=340282366920938463426481119284349108225:=rfl
     have h3:(B64:Int)*(B64*1)=340282366920938463463374607431768211456:=rfl
     rw [h2]at h1
     rw [Int.mul_add,h3]
     have h4:0≤B64*r:=Int.mul_nonneg (by decide) r0
     clear lv1 lu1 eV eU ew ew1
     omega
    ·rw [Int.mul_zero,Int.add_zero]
     exact h
   obtain⟨z,z1,z2,z3,z4⟩:=done q (by omega) q0 q1 ((test q _ he).1 hle)
   exact⟨z,z1,z2,z3,Ev.step (fun k=>l0_pass hn hl ew q0 q1 w0 w1 t0 t1 hp k) z4⟩
  ·have ho:o=0:=by
    rcases ho with h|h
    ·exact h
    ·exact absurd (Or.inl h) hp
   subst ho
   have hp':¬q*rd v (n:Int)≤B64*r+rd u (n:Int):=fun h=>hp (Or.inr ⟨rfl,h⟩)
   have hov:=add_range r0 r1 y0 y1 (Int.le_refl 0) (by decide)
   have he2:=Int.emod_add_mul_ediv (r+rd v ((n+1:Nat):Int)+0) B64
   obtain⟨z,z1,z2,z3,z4⟩:=ih (q-1) ((r+rd v ((n+1:Nat):Int)+0)%B64) ((r+rd v ((n+1:Nat):Int)+0)/B64) (by omega) (by omega) (by omega) (Int.emod_nonneg _ (by decide)) (Int.emod_lt_of_pos _ hB) (by omega) (by
    rw [he2,Int.sub_mul,Int.one_mul]
    rw [Int.mul_zero]at he
    clear lv1 lu1 eV eU ew ew1 hp hp' hov he2
    omega)
   exact⟨z,z1,z2,z3,Ev.step (fun k=>l0_fail hn hl ew ew1 (by omega) q1 r0 w0 w1 t0 t1 y0 hp' k) z4⟩
theorem step_ev {u v:List Int} {n:Nat} (hn:v.length=n+2) (ln:n≤1099511627000) (hu:Dig B64 u) (hv:Dig B64 v) (hl:u.length=n+3) (ht:rd v ((n+1:Nat):Int)≠0) (hlt:vB B64 u<vB B64 v*B64):
  ∃z,z.length=n+3∧Dig B64 z∧vB B64 z=vB B64 u%vB B64 v∧Ev (fun k=>exact_step.f k u v) (vB B64 u/vB B64 v,z):=by
 have hB:(0:Int)<B64:=by decide
 obtain⟨lv,lv0,lv1,eV⟩:=split2 hv hn
 obtain⟨lu,lu0,lu1,eU⟩:=split3 hu hl
 have hP:(0:Int)<B64^n:=Int.pow_pos hB
 obtain⟨y0,y1⟩:=Dig_rd hv (n+1) (by clear lv1 lu1 eV eU;omega)
 obtain⟨w0,w1⟩:=Dig_rd hv n (by clear lv1 lu1 eV eU;omega)
 obtain⟨t0,t1⟩:=Dig_rd hu n (by clear lv1 lu1 eV eU;omega)
 obtain⟨p0,p1⟩:=Dig_rd hu (n+1) (by clear lv1 lu1 eV eU;omega)
 obtain⟨x0,x1⟩:=Dig_rd hu (n+2) (by clear lv1 lu1 eV eU;omega)
 have y2:1≤rd v ((n+1:Nat):Int):=by clear lv1 lu1 eV eU;omega
 have hW:B64≤rd v (n:Int)+B64*rd v ((n+1:Nat):Int):=by
  have:B64*1≤B64*rd v ((n+1:Nat):Int):=Int.mul_le_mul_of_nonneg_left y2 (Int.le_of_lt hB)
  rw [Int.mul_one]at this
  clear lv1 lu1 eV eU;omega
 have hV0:0<vB B64 v:=by
  have:0<B64^n*(rd v (n:Int)+B64*rd v ((n+1:Nat):Int)):=Int.mul_pos hP (Int.lt_of_lt_of_le hB hW)
  generalize B64^n*(rd v (n:Int)+B64*rd v ((n+1:Nat):Int))=A at*
  clear lv1 lu1 eU;omega
 have hQ0:0≤vB B64 u/vB B64 v:=Int.ediv_nonneg (vB_nonneg (Int.le_of_lt hB) hu) (Int.le_of_lt hV0)
 have hQ1:vB B64 u/vB B64 v<B64:=Int.ediv_lt_of_lt_mul hV0 (by rw [Int.mul_comm];exact hlt)
 have hX:(vB B64 u/vB B64 v)*rd v ((n+1:Nat):Int)≤rd u ((n+1:Nat):Int)+B64*rd u ((n+2:Nat):Int):=by
  have h1:=Int.ediv_mul_le (vB B64 u) (show vB B64 v≠0 by clear lv1 lu1 eV eU;omega)
  generalize vB B64 u/vB B64 v=Q at*
  rw [eV,eU]at h1
  have e1:Q*(lv+B64^n*(rd v (n:Int)+B64*rd v ((n+1:Nat):Int)))=Q*lv+Q*(B64^n*rd v (n:Int))+B64^n*(B64*(Q*rd v ((n+1:Nat):Int))):=by
   rw [Int.mul_add Q,Int.mul_add (B64^n),Int.mul_add Q,Int.mul_left_comm Q (B64^n) (B64*_),Int.mul_left_comm Q B64,Int.add_assoc]
  rw [e1]at h1
  have h2:0≤Q*lv:=Int.mul_nonneg hQ0 lv0
  have h3:0≤Q*(B64^n*rd v (n:Int)):=Int.mul_nonneg hQ0 (Int.mul_nonneg (Int.le_of_lt hP) w0)
  rcases Int.lt_or_le (rd u ((n+1:Nat):Int)+B64*rd u ((n+2:Nat):Int)) (Q*rd v ((n+1:Nat):Int))with h|h
  ·exfalso
   have h4:B64*(rd u ((n+1:Nat):Int)+B64*rd u ((n+2:Nat):Int)+1)≤B64*(Q*rd v ((n+1:Nat):Int)):=Int.mul_le_mul_of_nonneg_left (by clear lv1 lu1 eV eU h1 e1;omega) (Int.le_of_lt hB)
   have h5:=Int.mul_le_mul_of_nonneg_left h4 (Int.le_of_lt hP)
   have h6:B64^n*(rd u (n:Int)+1)≤B64^n*B64:=Int.mul_le_mul_of_nonneg_left (by clear lv1 lu1 eV eU h1 e1 h5;omega) (Int.le_of_lt hP)
   rw [Int.mul_add B64,Int.mul_one,Int.mul_add (B64^n)]at h5
   rw [Int.mul_add (B64^n) (rd u (n:Int)),Int.mul_one]at h6
   rw [Int.mul_add (B64^n) (rd u (n:Int))]at h1
   generalize B64^n*(B64*(rd u ((n+1:Nat):Int)+B64*rd u ((n+2:Nat):Int)))=A at*
   generalize B64^n*(B64*(Q*rd v ((n+1:Nat):Int)))=A1 at*
   generalize B64^n*rd u (n:Int)=A2 at*
   generalize B64^n*B64=A3 at*
   generalize(B64:Int)^n=P at*
   clear eV eU e1 hV0 hQ1
   omega
  ·exact h
 have ew1:wrap64 (((n+2:Nat):Int)-1)=((n+1:Nat):Int):=by clear lv1 lu1 eV eU;rw [w64 (by omega) (by omega)];omega
 have c1:((n+2:Nat):Int)<(u.length:Int):=by clear lv1 lu1 eV eU ew1;omega
 have c2:((n+1:Nat):Int)<(v.length:Int):=by clear lv1 lu1 eV eU ew1;omega
 have c3:((n+1:Nat):Int)<(u.length:Int):=by clear lv1 lu1 eV eU ew1;omega
 have ev:(v.length:Int)=((n+2:Nat):Int):=by clear lv1 lu1 eV eU ew1;omega
 by_cases hc:rd u ((n+2:Nat):Int)≥rd v ((n+1:Nat):Int)
 ·
  have heq:rd u ((n+2:Nat):Int)=rd v ((n+1:Nat):Int):=by
   rcases Int.lt_or_le (rd v ((n+1:Nat):Int)) (rd u ((n+2:Nat):Int))with h|h
   ·exfalso
    have g1:B64*(rd v ((n+1:Nat):Int)+1)≤B64*rd u ((n+2:Nat):Int):=Int.mul_le_mul_of_nonneg_left (by clear lv1 lu1 eV eU;omega) (Int.le_of_lt hB)
    rw [Int.mul_add,Int.mul_one]at g1
    have g2:rd v (n:Int)+B64*rd v ((n+1:Nat):Int)+1≤rd u ((n+1:Nat):Int)+B64*rd u ((n+2:Nat):Int):=by clear lv1 lu1 eV eU;omega
    have g3:B64*(rd v (n:Int)+B64*rd v ((n+1:Nat):Int)+1)≤B64*(rd u ((n+1:Nat):Int)+B64*rd u ((n+2:Nat):Int)):=Int.mul_le_mul_of_nonneg_left g2 (Int.le_of_lt hB)
    have g4:=Int.mul_le_mul_of_nonneg_left g3 (Int.le_of_lt hP)
    rw [eV,eU,Int.add_mul,Int.mul_add (B64^n) (rd u (n:Int))]at hlt
    have g5:0≤B64^n*rd u (n:Int):=Int.mul_nonneg (Int.le_of_lt hP) t0
    have g6:lv*B64<B64^n*B64:=Int.mul_lt_mul_of_pos_right lv1 hB
    rw [Int.mul_add B64,Int.mul_one,Int.mul_add (B64^n)]at g4
    have e2:B64^n*(rd v (n:Int)+B64*rd v ((n+1:Nat):Int))*B64=B64^n*(B64*(rd v (n:Int)+B64*rd v ((n+1:Nat):Int))):=by rw [Int.mul_assoc,Int.mul_comm _ B64]
    rw [e2]at hlt
    generalize B64^n*(B64*(rd u ((n+1:Nat):Int)+B64*rd u ((n+2:Nat):Int)))=A at*
    generalize B64^n*(B64*(rd v (n:Int)+B64*rd v ((n+1:Nat):Int)))=A1 at*
    generalize B64^n*rd u (n:Int)=A2 at*
    generalize B64^n*B64=A3 at*
    generalize lv*B64=A4 at*
    clear eV eU e2 hV0 hQ1 hX lv1 lu1
    omega
   ·clear lv1 lu1 eV eU;omega
  have a2:=add64_eq p0 y0 (Int.le_refl 0) (by decide)
  have hov:=add_range p0 p1 y0 y1 (Int.le_refl 0) (by decide)
  have he2:=Int.emod_add_mul_ediv (rd u ((n+1:Nat):Int)+rd v ((n+1:Nat):Int)+0) B64
  have hd:(18446744073709551615:Int)=vB B64 u/vB B64 v+((18446744073709551615-vB B64 u/vB B64 v).toNat:Nat):=by
   have:vB B64 u/vB B64 v<18446744073709551616:=hQ1
   clear lv1 lu1 eV eU;omega
  obtain⟨z,z1,z2,z3,z4⟩:=step_l0 hn ln hu hv hl ht _ 18446744073709551615 _ _ hd (by decide) (by decide) (Int.emod_nonneg _ (by decide)) (Int.emod_lt_of_pos _ hB) (show(rd u ((n+1:Nat):Int)+rd v ((n+1:Nat):Int)+0)/B64=0∨(rd u ((n+1:Nat):Int)+rd v ((n+1:Nat):Int)+0)/B64=1 by clear lv1 lu1 eV eU;omega) (by
   rw [he2,heq]
   show 18446744073709551615*rd v ((n+1:Nat):Int)+(rd u ((n+1:Nat):Int)+rd v ((n+1:Nat):Int)+0)=rd u ((n+1:Nat):Int)+18446744073709551616*rd v ((n+1:Nat):Int)
   clear lv1 lu1 eV eU;omega)
  refine⟨z,z1,z2,z3,Ev.congr (fun k=>?_) (Ev.step (f:=_) (fun k=>rfl) z4:Ev (fun k=>exact_step.j0 k u v ((n+2:Nat):Int) 18446744073709551615 ((rd u ((n+1:Nat):Int)+rd v ((n+1:Nat):Int)+0)%B64) ((rd u ((n+1:Nat):Int)+rd v ((n+1:Nat):Int)+0)/B64)) _)⟩
  unfold exact_step.f
  rw [ev,ew1,if_pos (Int.natCast_nonneg _),if_pos c1,if_pos (Int.natCast_nonneg _),if_pos (by rw [←ev];exact c2),if_pos hc,if_pos c3,a2,Option.bind_some]
 ·have hq:=div64_ev x0 (show rd u ((n+2:Nat):Int)<rd v ((n+1:Nat):Int)by clear lv1 lu1 eV eU;omega) y1 p0 p1
  have hyp:0<rd v ((n+1:Nat):Int):=by clear lv1 lu1 eV eU;omega
  have g:=Int.emod_add_mul_ediv (rd u ((n+2:Nat):Int)*B64+rd u ((n+1:Nat):Int)) (rd v ((n+1:Nat):Int))
  have r0:=Int.emod_nonneg (rd u ((n+2:Nat):Int)*B64+rd u ((n+1:Nat):Int)) (show rd v ((n+1:Nat):Int)≠0 from ht)
  have r1:=Int.emod_lt_of_pos (rd u ((n+2:Nat):Int)*B64+rd u ((n+1:Nat):Int)) hyp
  have q0:0≤(rd u ((n+2:Nat):Int)*B64+rd u ((n+1:Nat):Int))/rd v ((n+1:Nat):Int):=Int.ediv_nonneg (Int.add_nonneg (Int.mul_nonneg x0 (Int.le_of_lt hB)) p0) (Int.le_of_lt hyp)
  have q1:(rd u ((n+2:Nat):Int)*B64+rd u ((n+1:Nat):Int))/rd v ((n+1:Nat):Int)<B64:=Int.ediv_lt_of_lt_mul hyp (by
   have h1:=Int.mul_le_mul_of_nonneg_right (show rd u ((n+2:Nat):Int)+1≤rd v ((n+1:Nat):Int)by clear lv1 lu1 eV eU;omega) (Int.le_of_lt hB)
   rw [Int.add_mul,Int.one_mul,Int.mul_comm (rd v _)]at h1
   clear lv1 lu1 eV eU;omega)
  have hQq:vB B64 u/vB B64 v≤(rd u ((n+2:Nat):Int)*B64+rd u ((n+1:Nat):Int))/rd v ((n+1:Nat):Int):=Int.le_ediv_of_mul_le hyp (by rw [Int.mul_comm (rd u _) B64,Int.add_comm];exact hX)
  obtain⟨z,z1,z2,z3,z4⟩:=step_l0 hn ln hu hv hl ht ((rd u ((n+2:Nat):Int)*B64+rd u ((n+1:Nat):Int))/rd v ((n+1:Nat):Int)-vB B64 u/vB B64 v).toNat ((rd u ((n+2:Nat):Int)*B64+rd u ((n+1:Nat):Int))/rd v ((n+1:Nat):Int)) ((rd u ((n+2:Nat):Int)*B64+rd u ((n+1:Nat):Int))%rd v ((n+1:Nat):Int)) 0 (by clear lv1 lu1 eV eU;omega) q0 q1 r0 (Int.lt_trans r1 y1) (Or.inl rfl) (by
   rw [Int.mul_zero,Int.add_zero,Int.mul_comm]
   rw [Int.mul_comm (rd u _) B64]at g⊢
   clear lv1 lu1 eV eU;omega)
  refine⟨z,z1,z2,z3,Ev.congr (f:=fun k=>(bits_Div64.f k (rd u ((n+2:Nat):Int)) (rd u ((n+1:Nat):Int)) (rd v ((n+1:Nat):Int))).bind fun bt=>exact_step.j0 k u v ((n+2:Nat):Int) bt.1 bt.2 0) (fun k=>?_) (Ev.bind hq (Ev.step (f:=_) (fun k=>rfl) z4))⟩
  unfold exact_step.f
  rw [ev,ew1,if_pos (Int.natCast_nonneg _),if_pos c1,if_pos (Int.natCast_nonneg _),if_pos (by rw [←ev];exact c2),if_neg hc,if_pos c3]
theorem drop_succ (B:Int) (l:List Int) (i:Nat) (h:i<l.length):vB B (l.drop i)=rd l (i:Int)+B*vB B (l.drop (i+1)):=by
 rw [List.drop_eq_getElem_cons h,vB_cons,rd_get l i h]
theorem drop_set (l:List Int) (i:Nat) (x:Int):(l.set i x).drop (i+1)=l.drop (i+1):=by
 apply List.ext_getElem?
 intro j
 rw [List.getElem?_drop,List.getElem?_drop,List.getElem?_set_ne (by omega)]
theorem vB_far (B:Int) {l:List Int} {n:Nat} (h:l.length≤n):vB B (l.drop n)=0:=by rw [List.drop_of_length_le h];rfl
theorem divide_l0 {a b:List Int} {y:Int} (ha:Dig B64 a) (la:a.length≤1099511627776) (hb:b.length=1) (hy:rd b 0=y) (y0:0<y) (y1:y<B64) {m n:Nat} (hm:vB B64 a=m) (hn:y=n):∀(i:Nat) (q:List Int) (r:Int),i≤a.length→q.length=a.length→Dig B64 q→0≤r→r<y→vB B64 (a.drop i)=y*vB B64 (q.drop i)+r→
  Ev (fun k=>exact_divide.l0 k a b q r ((i:Int)-1)) (d64 (m/n),d64 (m%n)):=by
 intro i
 induction i with
 |zero=>
  intro q r _ hl hd r0 r1 hv
  rw [List.drop_zero,List.drop_zero,hm,hn]at hv
  have hq0:=vB_nonneg (by decide) hd
  have e1:(vB B64 q).toNat=m/n:=by
   have:(vB B64 q)=((m/n:Nat):Int):=by
    rw [Int.natCast_ediv,hv,Int.add_comm,Int.add_mul_ediv_left _ _ (by omega),Int.ediv_eq_zero_of_lt r0 (by omega),Int.zero_add]
   rw [this,Int.toNat_natCast]
  have e2:(vB B64 [r]).toNat=m%n:=by
   have:(vB B64 [r])=((m%n:Nat):Int):=by
    rw [Int.natCast_emod,hv,Int.add_comm,Int.add_mul_emod_self_left,Int.emod_eq_of_lt r0 (by omega)]
    simp [vB]
   rw [this,Int.toNat_natCast]
  have t1:=trim_ev hd (by omega)
  have t2:=trim_ev (l:=[r]) (Dig_cons.2 ⟨⟨r0,Int.lt_trans r1 y1⟩,Dig_nil _⟩) (by simp)
  rw [e1]at t1
  rw [e2]at t2
  refine Ev.step (f:=fun k=>(exact_trim.f k q).bind fun t173=>((exact_trim.f k [r]).bind fun t179=>some (t173,t179))) (fun k=>?_) (Ev.bind t1 (Ev.bind (f:=fun _ t179=>some (d64 (m/n),t179)) t2 (Ev.now _)))
  simp only [exact_divide.l0]
  rw [if_neg (by decide)]
 |succ i ih=>
  intro q r hi hl hd r0 r1 hv
  have hi':i<a.length:=by omega
  obtain⟨x0,x1⟩:=Dig_rd ha i hi'
  have hdv:=div64_ev r0 r1 y1 x0 x1
  have g:=Int.emod_add_mul_ediv (r*B64+rd a (i:Int)) y
  have g0:=Int.emod_nonneg (r*B64+rd a (i:Int)) (show y≠0 by omega)
  have g1:=Int.emod_lt_of_pos (r*B64+rd a (i:Int)) y0
  have d0:0≤(r*B64+rd a (i:Int))/y:=Int.ediv_nonneg (Int.add_nonneg (Int.mul_nonneg r0 (by decide)) x0) (by omega)
  have d1:(r*B64+rd a (i:Int))/y<B64:=Int.ediv_lt_of_lt_mul y0 (by
   have h1:=Int.mul_le_mul_of_nonneg_right (show r+1≤y by omega) (show(0:Int)≤B64 by decide)
   rw [Int.add_mul,Int.one_mul,Int.mul_comm y]at h1
   omega)
  have e0:((i+1:Nat):Int)-1=(i:Int):=by omega
  have e1:wrap64 ((i:Int)-1)=(i:Int)-1:=w64 (by omega) (by omega)
  have c1:(i:Int)≥0:=by omega
  have c2:(i:Int)<(a.length:Int):=by omega
  have c3:(0:Int)<(b.length:Int):=by omega
  have c4:(i:Int)<(q.length:Int):=by omega
  rw [e0]
  refine Ev.step (f:=fun k=>(bits_Div64.f k r (rd a (i:Int)) y).bind fun bt170=>exact_divide.l0 k a b (q.set i bt170.1) bt170.2 ((i:Int)-1)) (fun k=>?_) (Ev.bind hdv (ih _ _ (by omega) (by rw [List.length_set];exact hl) (Dig_set hd _ d0 d1) g0 g1 ?_))
  ·simp only [exact_divide.l0,e1]
   rw [if_pos c1,if_pos c1,if_pos c2,if_pos c3,hy]
   simp only [if_pos c4,Int.toNat_natCast]
  ·show vB B64 (a.drop i)=y*vB B64 ((q.set i ((r*B64+rd a (i:Int))/y)).drop i)+(r*B64+rd a (i:Int))%y
   rw [drop_succ B64 a i hi',drop_succ B64 (q.set i ((r*B64+rd a (i:Int))/y)) i (by rw [List.length_set];omega),rd_set_self _ _ _ (by omega),drop_set,hv]
   rw [Int.mul_add B64,Int.mul_add y,Int.mul_left_comm y B64]
   rw [Int.mul_comm r B64]at*
   generalize y*((B64*r+rd a (i:Int))/y)=A at*
   generalize(B64*r+rd a (i:Int))%y=A2 at*
   generalize B64*(y*vB B64 (q.drop (i+1)))=A3 at*
   generalize B64*r=A4 at*
   clear hdv hv
   omega
def Down (u z:List Int) (s i:Nat):Prop:=
 z.length=u.length∧Dig B64 z∧(∀j:Nat,i≤j→rd z (j:Int)=rd u (j:Int))∧2^s*vB B64 (z.take i)=vB B64 (u.take i)+B64^i*(rd u (i:Int)%2^s)
theorem word_down {x y:Int} (x0:0≤x) (x1:x<B64) (y0:0≤y) (y1:y<B64) (s:Nat) (hs:s≤63):2^s*(x/2^s+(y*2^(64-s))%B64)=x-x%2^s+B64*(y%2^s)∧(y*2^(64-s))%B64%2^(64-s)=0∧x/2^s<2^(64-s)∧0≤x/2^s∧x/2^s+(y*2^(64-s))%B64<B64:=by
 have hP:(0:Int)<2^s:=Int.pow_pos (by decide)
 have hR:(0:Int)<2^(64-s):=Int.pow_pos (by decide)
 have hPR:(2:Int)^s*2^(64-s)=B64:=by
  rw [←Int.pow_add]
  have:s+(64-s)=64:=by omega
  rw [this]
  rfl
 have g:=Int.emod_add_mul_ediv y (2^s)
 have g0:=Int.emod_nonneg y (show(2:Int)^s≠0 by omega)
 have g1:=Int.emod_lt_of_pos y hP
 have g2:y*2^(64-s)=y%2^s*2^(64-s)+B64*(y/2^s):=by
  conv=>lhs;rw [←g]
  rw [Int.add_mul,Int.mul_right_comm,hPR]
 have g3:0≤y%2^s*2^(64-s):=Int.mul_nonneg g0 (Int.le_of_lt hR)
 have g4:y%2^s*2^(64-s)+2^(64-s)≤B64:=by
  have:=Int.mul_le_mul_of_nonneg_right (show y%2^s+1≤2^s by omega) (Int.le_of_lt hR)
  rwa [hPR,Int.add_mul,Int.one_mul]at this
 have g5:(y*2^(64-s))%B64=y%2^s*2^(64-s):=by
  rw [g2,Int.add_mul_emod_self_left,Int.emod_eq_of_lt g3 (by omega)]
 have k1:=Int.emod_add_mul_ediv x (2^s)
 have k2:x/2^s<2^(64-s):=Int.ediv_lt_of_lt_mul hP (by rw [Int.mul_comm,hPR];exact x1)
 refine⟨?_,by rw [g5];exact Int.mul_emod_left _ _,k2,Int.ediv_nonneg x0 (Int.le_of_lt hP),by rw [g5];omega⟩
 rw [g5,Int.mul_add,Int.mul_left_comm (2^s) (y%2^s),hPR,Int.mul_comm (y%2^s)]
 omega
theorem down_step {u z:List Int} {s i:Nat} (hs:s≤63) (hu:Dig B64 u) (hi:i+1<u.length) (h:Down u z s i):Down u (z.set i (rd u (i:Int)/2^s+(rd u ((i+1:Nat):Int)*2^(64-s))%B64)) s (i+1):=by
 obtain⟨hl,hd,hr,hv⟩:=h
 obtain⟨x0,x1⟩:=Dig_rd hu i (by omega)
 obtain⟨y0,y1⟩:=Dig_rd hu (i+1) hi
 obtain⟨a1,a2,a3,a4,a5⟩:=word_down x0 x1 y0 y1 s hs
 have a6:=Int.emod_nonneg (rd u ((i+1:Nat):Int)*2^(64-s)) (show(B64:Int)≠0 by decide)
 refine⟨by rw [List.length_set];exact hl,Dig_set hd _ (Int.add_nonneg a4 a6) a5,fun j hj=>?_,?_⟩
 ·rw [rd_set_ne _ _ _ _ (by omega)]
  exact hr j (by omega)
 ·rw [take_succ,take_succ,rd_set_self _ _ _ (by omega),List.take_set_of_le (Nat.le_refl _),Int.mul_add,hv,Int.mul_left_comm (2^s),a1,Int.pow_succ,Int.mul_assoc (B64^i) B64,Int.mul_add (B64^i),Int.mul_sub]
  generalize B64^i*(rd u (i:Int)%2^s)=A
  generalize B64^i*rd u (i:Int)=A1
  generalize B64^i*(B64*(rd u ((i+1:Nat):Int)%2^s))=A2
  omega
theorem divide_l2 {u q:List Int} {s N Q R:Nat} (hs:s≤63) (hu:Dig B64 u) (hN:N+1≤u.length) (lu:u.length≤1099511627780) (hq:Dig B64 q) (lq:q.length≤1099511627780) (hQ:vB B64 q=Q) (hR:vB B64 (u.take N)+B64^N*(rd u (N:Int)%2^s)=2^s*R):
  ∀(d i:Nat) (z:List Int),i+d=N→Down u z s i→Ev (fun k=>exact_divide.l2 k (s:Int) z (N:Int) q (N:Int) (i:Int)) (d64 Q,d64 R):=by
 intro d
 induction d with
 |zero=>
  intro i z hi h
  have hi:i=N:=by omega
  subst hi
  have hl:=h.1
  have c1:(i:Int)≤(z.length:Int):=by omega
  have lz:z.length<9223372036854775808:=by omega
  have lz2:(z.take i).length<9223372036854775808:=by rw [List.length_take];omega
  have lq2:q.length<9223372036854775808:=by omega
  obtain⟨-,hd, -,hv⟩:=h
  rw [hR]at hv
  have hv':vB B64 (z.take i)=R:=Int.eq_of_mul_eq_mul_left (show(2:Int)^s≠0 from Int.ne_of_gt (Int.pow_pos (by decide))) hv
  have t1:=trim_ev hq lq2
  have t2:=trim_ev (Dig_take hd i) lz2
  rw [hQ,Int.toNat_natCast]at t1
  rw [hv',Int.toNat_natCast]at t2
  refine Ev.step (f:=fun k=>(exact_trim.f k q).bind fun t208=>(exact_trim.f k (z.take i)).bind fun t214=>some (t208,t214)) (fun k=>?_) (Ev.bind t1 (Ev.bind (f:=fun _ t214=>some (d64 Q,t214)) t2 (Ev.now _)))
  simp only [exact_divide.l2]
  rw [if_neg (Int.lt_irrefl _)]
  simp only [if_pos c1,if_pos (Int.natCast_nonneg i),Int.toNat_natCast]
 |succ d ih=>
  intro i z hi h
  have hi':i<N:=by omega
  have c0:i+1+d=N:=by omega
  have hl:=h.1
  have c1:(i:Int)<(N:Int):=by omega
  have c2:(i:Int)<(z.length:Int):=by omega
  have c3:((i+1:Nat):Int)<(z.length:Int):=by omega
  have c4:i<z.length:=by omega
  have c5:i+1<u.length:=by omega
  have hn:=down_step hs hu c5 h
  have e1:wrap64 ((i:Int)+1)=((i+1:Nat):Int):=by clear hR;rw [w64 (by omega) (by omega)];omega
  have e2:wrap64 (64-(s:Int))=((64-s:Nat):Int):=by clear hR e1;rw [w64 (by omega) (by omega)];omega
  have g0:=h.2.2.1 i (Nat.le_refl _)
  have g1:=h.2.2.1 (i+1) (by clear hR e1 e2;omega)
  obtain⟨x0,x1⟩:=Dig_rd hu i (by clear hR e1 e2;omega)
  obtain⟨y0,y1⟩:=Dig_rd hu (i+1) c5
  obtain⟨a1,a2,a3,a4,a5⟩:=word_down x0 x1 y0 y1 s hs
  have a6:=Int.emod_nonneg (rd u ((i+1:Nat):Int)*2^(64-s)) (show(B64:Int)≠0 by decide)
  have a7:=Int.emod_lt_of_pos (rd u ((i+1:Nat):Int)*2^(64-s)) (show(0:Int)<B64 by decide)
  have sh1:shr .u64 (rd z (i:Int)) (s:Int)=rd u (i:Int)/2^s:=by rw [g0];exact shr_eq _ _ (by clear hR e1 e2 a1;omega)
  have sh2:shl .u64 (rd u ((i+1:Nat):Int)) ((64-s:Nat):Int)=(rd u ((i+1:Nat):Int)*2^(64-s))%B64:=shl_eq _ _ (by clear hR e1 e2 a1;omega)
  have hor:=bits_join2 (64-s) (by clear hR e1 e2 a1;omega) a4 a3 a6 a7 a2 a5
  have r1:rd (z.set i (rd u (i:Int)/2^s)) (i:Int)=rd u (i:Int)/2^s:=rd_set_self _ _ _ c4
  have r2:rd (z.set i (rd u (i:Int)/2^s)) ((i+1:Nat):Int)=rd u ((i+1:Nat):Int):=by rw [rd_set_ne _ _ _ _ (by clear hR e1 e2 a1;omega)];exact g1
  refine Ev.step (fun k=>?_) (ih (i+1) _ c0 hn)
  simp only [exact_divide.l2,e1,e2,sh1,Int.toNat_natCast,Option.bind_some]
  rw [if_pos c1,if_pos (Int.natCast_nonneg _),if_pos c2,if_pos (Int.natCast_nonneg _)]
  by_cases hs0:(s:Int)>0
  ·rw [if_pos hs0,if_pos c3,if_pos (Int.natCast_nonneg _),if_pos (Int.natCast_nonneg _),r1,r2,sh2,hor,List.set_set]
  ·rw [if_neg hs0]
   have hs1:s=0:=by clear hR e1 e2 a1;omega
   subst hs1
   have:(rd u ((i+1:Nat):Int)*2^(64-0))%B64=0:=Int.mul_emod_left _ _
   rw [this,Int.add_zero]
def Long (M V:Int) (L Lq:Nat) (u q:List Int) (J:Nat):Prop:=
 u.length=L∧Dig B64 u∧q.length=Lq∧Dig B64 q∧vB B64 (u.drop J)<V∧M=vB B64 u+V*(B64^J*vB B64 (q.drop J))
theorem long_step {M:Int} {L Lq N j:Nat} {u v q:List Int} (hv:Dig B64 v) (hN:v.length=N+2) (ln:N≤1099511627000) (ht:rd v ((N+1:Nat):Int)≠0) (hj:j+(N+2)+1≤L) (hjq:j<Lq) (h:Long M (vB B64 v) L Lq u q (j+1)):
  ∃d u',Long M (vB B64 v) L Lq u' (q.set j d) j∧Ev (fun k=>exact_stepAt.f k u v (j:Int) ((j+(N+2)+1:Nat):Int)) (d,u'):=by
 have hB:(0:Int)<B64:=by decide
 obtain⟨hl,hd,hlq,hdq,hlt,hM⟩:=h
 have hV1:=vB_lt hB hv
 rw [hN]at hV1
 have hVn:=vB_nonneg (Int.le_of_lt hB) hv
 obtain⟨w,hw⟩:∃w,w=(u.take (j+(N+2)+1)).drop j:=⟨_,rfl⟩
 have hwl:w.length=N+3:=by rw [hw,List.length_drop,List.length_take];omega
 have hwd:Dig B64 w:=by rw [hw];exact Dig_drop (Dig_take hd _) _
 have hwt:w=(u.drop j).take (N+3):=by rw [hw,List.drop_take];congr 1;omega
 have hdl:(u.drop j).length=L-j:=by rw [List.length_drop,hl]
 have s1:=vB_split B64 (u.drop j) (N+3) (by omega)
 rw [←hwt,List.drop_drop]at s1
 have s2:=vB_split B64 (u.drop (j+1)) (N+2) (by rw [List.length_drop];omega)
 rw [List.drop_drop,show j+1+(N+2)=j+(N+3)by omega]at s2
 have p1:=vB_nonneg (Int.le_of_lt hB) (Dig_take (Dig_drop hd (j+1)) (N+2))
 have p2:=vB_nonneg (Int.le_of_lt hB) (Dig_drop hd (j+(N+3)))
 have hz:vB B64 (u.drop (j+(N+3)))=0:=by
  rcases Int.lt_or_le (vB B64 (u.drop (j+(N+3)))) 1 with h|h
  ·clear hV1 s1 s2 hM hlt;omega
  ·exfalso
   have:=Int.mul_le_mul_of_nonneg_left h (Int.le_of_lt (show(0:Int)<B64^(N+2)from Int.pow_pos hB))
   rw [Int.mul_one]at this
   generalize(B64:Int)^(N+2)=P at*
   generalize P*vB B64 (u.drop (j+(N+3)))=A at*
   clear hM s1
   omega
 rw [hz,Int.mul_zero,Int.add_zero]at s1
 have s3:=drop_succ B64 u j (by omega)
 obtain⟨x0,x1⟩:=Dig_rd hd j (by omega)
 have hwlt:vB B64 w<vB B64 v*B64:=by
  rw [←s1,s3]
  have h1:=Int.mul_le_mul_of_nonneg_left (show vB B64 (u.drop (j+1))+1≤vB B64 v by clear hV1 s1 s2 hM s3;omega) (Int.le_of_lt hB)
  rw [Int.mul_add,Int.mul_one,Int.mul_comm B64 (vB B64 v)]at h1
  clear hV1 s1 s2 hM s3
  omega
 obtain⟨z,z1,z2,z3,z4⟩:=step_ev hN ln hwd hv hwl ht hwlt
 have hV0:0<vB B64 v:=by
  rcases Int.lt_or_le 0 (vB B64 v)with h|h
  ·exact h
  ·exfalso
   have:vB B64 v=0:=by clear hV1 s1 s2 hM s3 hwlt;omega
   rw [this,Int.zero_mul]at hwlt
   have:=vB_nonneg (Int.le_of_lt hB) hwd
   clear hV1 s1 s2 hM s3;omega
 have q0:0≤vB B64 w/vB B64 v:=Int.ediv_nonneg (vB_nonneg (Int.le_of_lt hB) hwd) (Int.le_of_lt hV0)
 have q1:vB B64 w/vB B64 v<B64:=Int.ediv_lt_of_lt_mul hV0 (by rw [Int.mul_comm];exact hwlt)
 have hdm:=Int.emod_add_mul_ediv (vB B64 w) (vB B64 v)
 have m1:=Int.emod_lt_of_pos (vB B64 w) hV0
 have htj:(u.take j).length=j:=by rw [List.length_take];omega
 have hdrop:(u.take j++z++u.drop (j+(N+2)+1)).drop j=z++u.drop (j+(N+3)):=by
  rw [List.append_assoc,List.drop_append_of_le_length (by omega),List.drop_of_length_le (by omega),List.nil_append]
  rfl
 have hvz:vB B64 (z++u.drop (j+(N+3)))=vB B64 z:=by rw [vB_append,hz,Int.mul_zero,Int.add_zero]
 refine⟨vB B64 w/vB B64 v,u.take j++z++u.drop (j+(N+2)+1),⟨?_,Dig_append (Dig_append (Dig_take hd _) z2) (Dig_drop hd _),by rw [List.length_set];exact hlq,Dig_set hdq _ q0 q1,?_,?_⟩,?_⟩
 ·rw [List.length_append,List.length_append,htj,z1,List.length_drop]
  clear hV1 s1 s2 hM s3 hwlt hdm;omega
 ·rw [hdrop,hvz,z3]
  exact m1
 ·have t1:=vB_split B64 u j (by clear hV1 s1 s2 hM s3 hwlt hdm;omega)
  have t2:vB B64 (u.take j++z++u.drop (j+(N+2)+1))=vB B64 (u.take j)+B64^j*vB B64 z:=by
   rw [List.append_assoc,vB_append,htj]
   congr 2
  rw [t2,z3,drop_succ B64 (q.set j (vB B64 w/vB B64 v)) j (by rw [List.length_set,hlq];exact hjq),rd_set_self _ _ _ (by rw [hlq];exact hjq),drop_set,hM,t1,s1,Int.pow_succ]
  generalize vB B64 (u.take j)=A
  generalize vB B64 (q.drop (j+1))=C
  generalize vB B64 w/vB B64 v=D at*
  generalize vB B64 w%vB B64 v=E at*
  rw [←hdm]
  generalize vB B64 v=V
  generalize(B64:Int)^j=P
  rw [Int.mul_add P E,Int.mul_add P D,Int.mul_add V (P*D),Int.mul_left_comm P V D,Int.mul_assoc P B64 C,Int.add_assoc,Int.add_assoc,Int.add_assoc]
 ·refine Ev.congr (f:=fun k=>(exact_step.f k w v).bind fun bt=>some (bt.1,u.take j++bt.2++u.drop (j+(N+2)+1))) (fun k=>?_) (Ev.bind z4 (Ev.now _))
  unfold exact_stepAt.f
  rw [Int.toNat_natCast,Int.toNat_natCast,←hw]
theorem divide_l1 {M:Int} {L Lq N s Q R:Nat} {v:List Int} (hv:Dig B64 v) (hN:v.length=N+2) (ln:N≤1099511627000) (ht:rd v ((N+1:Nat):Int)≠0) (hs:s≤63) (hL:L≤1099511627780) (hLq:Lq+(N+2)=L) (hLq1:1≤Lq)
  (hQ:M/vB B64 v=Q) (hR:M%vB B64 v=2^s*R):∀(J:Nat) (u q:List Int),J≤Lq→Long M (vB B64 v) L Lq u q J→Ev (fun k=>exact_divide.l1 k (s:Int) v u ((N+2:Nat):Int) q ((J:Int)-1)) (d64 Q,d64 R):=by
 have hB:(0:Int)<B64:=by decide
 have hV1:=vB_lt hB hv
 rw [hN]at hV1
 intro J
 induction J with
 |zero=>
  intro u q hJ h
  obtain⟨hl,hd,hlq,hdq,hlt,hM⟩:=h
  rw [List.drop_zero]at hlt hM
  rw [Int.pow_zero,Int.one_mul]at hM
  have hu0:=vB_nonneg (Int.le_of_lt hB) hd
  have hV0:vB B64 v≠0:=by clear hV1;omega
  have eQ:vB B64 q=Q:=by
   rw [←hQ,hM,Int.add_mul_ediv_left _ _ hV0,Int.ediv_eq_zero_of_lt hu0 hlt,Int.zero_add]
  have eR:vB B64 u=2^s*R:=by
   rw [←hR,hM,Int.add_mul_emod_self_left,Int.emod_eq_of_lt hu0 hlt]
  have hNl:N+2+1≤u.length:=by clear hV1 hlt hM;omega
  have s1:=vB_split B64 u (N+2) (by clear hV1 hlt hM;omega)
  have p1:=vB_nonneg (Int.le_of_lt hB) (Dig_take hd (N+2))
  have p2:=vB_nonneg (Int.le_of_lt hB) (Dig_drop hd (N+2))
  have hz:vB B64 (u.drop (N+2))=0:=by
   rcases Int.lt_or_le (vB B64 (u.drop (N+2))) 1 with h|h
   ·clear hV1 s1 hM hlt;omega
   ·exfalso
    have:=Int.mul_le_mul_of_nonneg_left h (Int.le_of_lt (show(0:Int)<B64^(N+2)from Int.pow_pos hB))
    rw [Int.mul_one]at this
    generalize(B64:Int)^(N+2)=P at*
    generalize P*vB B64 (u.drop (N+2))=A at*
    clear hM eR
    omega
  have hz2:rd u ((N+2:Nat):Int)=0:=by
   have s3:=drop_succ B64 u (N+2) (by clear hV1 hlt hM s1;omega)
   obtain⟨x0,x1⟩:=Dig_rd hd (N+2) (by clear hV1 hlt hM s1;omega)
   have p3:=Int.mul_nonneg (Int.le_of_lt hB) (vB_nonneg (Int.le_of_lt hB) (Dig_drop hd (N+2+1)))
   rw [hz]at s3
   clear hV1 hlt hM s1;omega
  rw [hz,Int.mul_zero,Int.add_zero]at s1
  have c1:¬(((0:Nat):Int)-1≥0):=by decide
  refine Ev.step (f:=fun k=>exact_divide.l2 k (s:Int) u ((N+2:Nat):Int) q ((N+2:Nat):Int) ((0:Nat):Int)) (fun k=>?_) (divide_l2 hs hd hNl (by clear hV1 hlt hM s1;omega) hdq (by clear hV1 hlt hM s1;omega) eQ (by rw [hz2,←s1,Int.zero_emod,Int.mul_zero,Int.add_zero];exact eR) (N+2) 0 u (Nat.zero_add _) ⟨rfl,hd,fun _ _=>rfl,?_⟩)
  ·simp only [exact_divide.l1]
   rw [if_neg c1]
   rfl
  ·have h0:rd u ((0:Nat):Int)%2^s=0:=by
    have s3:=drop_succ B64 u 0 (by clear hV1 hlt hM s1;omega)
    rw [List.drop_zero,eR]at s3
    obtain⟨c,hc⟩:∃c,c*2^s=B64:=⟨2^(64-s),by
     rw [←Int.pow_add]
     have:64-s+s=64:=by clear hV1 hlt hM s1;omega
     rw [this]
     rfl⟩
    have:rd u ((0:Nat):Int)=2^s*(R-c*vB B64 (u.drop 1)):=by
     rw [show 0+1=1 from rfl]at s3
     generalize vB B64 (u.drop 1)=X at*
     rw [←hc]at s3
     rw [Int.mul_sub,←Int.mul_assoc,Int.mul_comm (2^s) c]
     clear hV1 hlt hM s1;omega
    rw [this]
    exact Int.mul_emod_right _ _
   rw [h0]
   simp [vB]
 |succ j ih=>
  intro u q hJ h
  have hj:j+(N+2)+1≤L:=by clear hV1;omega
  have e0:((j+1:Nat):Int)-1=(j:Int):=by clear hV1;omega
  have hl:=h.1
  have hlq:=h.2.2.1
  have c1:(j:Int)≥0:=by clear hV1;omega
  have c2:(j:Int)≤((j+(N+2)+1:Nat):Int):=by clear hV1;omega
  have c3:((j+(N+2)+1:Nat):Int)≤(u.length:Int):=by clear hV1;omega
  have c4:(j:Int)<(q.length:Int):=by clear hV1;omega
  have e1:wrap64 ((j:Int)+((N+2:Nat):Int))=((j+(N+2):Nat):Int):=by clear hV1;rw [w64 (by omega) (by omega)];omega
  have e2:wrap64 (((j+(N+2):Nat):Int)+1)=((j+(N+2)+1:Nat):Int):=by clear hV1 e1;rw [w64 (by omega) (by omega)];omega
  have e3:wrap64 ((j:Int)-1)=(j:Int)-1:=by clear hV1 e1 e2;exact w64 (by omega) (by omega)
  obtain⟨d,u',h',hev⟩:=long_step hv hN ln ht hj (by clear hV1 e1 e2 e3;omega) h
  rw [e0]
  refine Ev.step (f:=fun k=>(exact_stepAt.f k u v (j:Int) ((j+(N+2)+1:Nat):Int)).bind fun bt200=>exact_divide.l1 k (s:Int) v bt200.2 ((N+2:Nat):Int) (q.set j bt200.1) ((j:Int)-1)) (fun k=>?_) (Ev.bind hev (ih u' _ (by clear hV1 e1 e2 e3;omega) h'))
  simp only [exact_divide.l1,e1,e2,e3]
  rw [if_pos c1,if_pos c1,if_pos c2,if_pos c3]
  simp only [if_pos c4,Int.toNat_natCast]
theorem divide_ev {m n:Nat} (hm:(d64 m).length≤1099511627000) (hn:(d64 n).length≤1099511627000) (n0:0<n):Ev (fun k=>exact_divide.f k (d64 m) (d64 n)) (d64 (m/n),d64 (m%n)):=by
 have hB:(0:Int)<B64:=by decide
 refine Ev.bind (compareWords_ev (by omega) (by omega)) ?_
 by_cases hlt:m<n
 ·refine Ev.congr (fun k=>if_pos (show cmpN m n<0 by unfold cmpN;rw [if_pos hlt];decide)) ?_
  rw [Nat.div_eq_of_lt hlt,Nat.mod_eq_of_lt hlt,d64_zero]
  exact Ev.now _
 refine Ev.congr (fun k=>if_neg (show¬cmpN m n<0 by unfold cmpN;rw [if_neg hlt];split<;>decide)) ?_
 have hpos:0<(d64 n).length:=by
  rcases Nat.eq_zero_or_pos (d64 n).length with h|h
  ·exfalso
   have:=d64_val n
   rw [List.eq_nil_of_length_eq_zero h]at this
   simp [vB]at this
   omega
  ·exact h
 have hle:(d64 n).length≤(d64 m).length:=d64_len_mono (by omega)
 by_cases h1:(d64 n).length=1
 ·refine Ev.congr (fun k=>if_pos (show((d64 n).length:Int)=1 by omega)) ?_
  have hy:vB B64 (d64 n)=rd (d64 n) 0:=by
   have:=drop_succ B64 (d64 n) 0 (by omega)
   rw [List.drop_zero,vB_far _ (by omega),Int.mul_zero,Int.add_zero]at this
   exact this
  rw [d64_val]at hy
  obtain⟨y0,y1⟩:=Dig_rd (d64_dig n) 0 (by omega)
  have y0':0<rd (d64 n) 0:=by omega
  have e1:wrap64 (((d64 m).length:Int)-1)=((d64 m).length:Int)-1:=w64 (by omega) (by omega)
  refine Ev.congr (f:=fun k=>exact_divide.l0 k (d64 m) (d64 n) (List.replicate (d64 m).length 0) 0 (((d64 m).length:Int)-1)) (fun k=>?_) (divide_l0 (d64_dig m) (by omega) h1 rfl y0' y1 (d64_val m) hy.symm (d64 m).length _ 0 (Nat.le_refl _) (by simp) (Dig_replicate hB _) (Int.le_refl 0) y0' (by rw [vB_far _ (Nat.le_refl _),vB_far _ (by simp)];simp))
  rw [if_pos (Int.natCast_nonneg _),Int.toNat_natCast,if_pos (by omega),e1]
 ·refine Ev.congr (fun k=>if_neg (show¬((d64 n).length:Int)=1 by omega)) ?_
  obtain⟨N,hN⟩:∃N,(d64 n).length=N+2:=⟨(d64 n).length-2,by omega⟩
  have e1:wrap64 (((d64 n).length:Int)-1)=((N+1:Nat):Int):=by rw [w64 (by omega) (by omega)];omega
  have htop:=d64_trim n hpos
  rw [hN,show N+2-1=N+1 by omega]at htop
  obtain⟨t0,t1⟩:=Dig_rd (d64_dig n) (N+1) (by omega)
  obtain⟨s,hs,hlz,n1,n2⟩:=norm_word (show 0<rd (d64 n) ((N+1:Nat):Int)by omega) t1
  obtain⟨b,b1,b2,b3,b4⟩:=shiftUp_ev (d64 n) (d64_dig n) (by omega) s hs
  obtain⟨a,a1,a2,a3,a4⟩:=shiftUp_ev (d64 m) (d64_dig m) (by omega) s hs
  rw [d64_val]at a3 b3
  have hb:vB B64 b=((n*2^s:Nat):Int):=by rw [b3,Int.natCast_mul,Int.natCast_pow];rfl
  have tb:=trim_ev b2 (by omega)
  rw [hb,Int.toNat_natCast]at tb
  have hlen:(d64 (n*2^s)).length=N+2:=by
   have g1:(d64 n).length≤(d64 (n*2^s)).length:=d64_len_mono (Nat.le_mul_of_pos_right n (Nat.two_pow_pos s))
   have g2:(d64 (n*2^s)).length≤N+2:=by
    apply dgs_len
    have h2:vB B64 (d64 n)*2^s<B64^(N+2):=by
     have h3:=vB_all B64 (d64 n) (N+1+1) (by omega)
     have hp:(B64:Int)^(N+2)=B64^(N+1)*B64:=Int.pow_succ _ _
     rw [←h3,take_succ,Int.add_mul,hp,Int.mul_assoc]
     have h4:=vB_lt hB (Dig_take (d64_dig n) (N+1))
     rw [List.length_take,Nat.min_eq_left (by omega)]at h4
     have hP:(0:Int)<2^s:=Int.pow_pos (by decide)
     obtain⟨c,hc⟩:∃c,c*2^s=B64:=⟨2^(64-s),by
      rw [←Int.pow_add]
      have:64-s+s=64:=by omega
      rw [this]
      rfl⟩
     have h5:rd (d64 n) ((N+1:Nat):Int)*2^s+2^s≤B64:=by
      have n2':rd (d64 n) ((N+1:Nat):Int)*2^s<B64:=n2
      rw [←hc]at n2'⊢
      have h6:rd (d64 n) ((N+1:Nat):Int)<c:=Int.lt_of_mul_lt_mul_right n2' (Int.le_of_lt hP)
      have h7:=Int.mul_le_mul_of_nonneg_right (show rd (d64 n) ((N+1:Nat):Int)+1≤c by omega) (Int.le_of_lt hP)
      rwa [Int.add_mul,Int.one_mul]at h7
     have h8:=Int.mul_lt_mul_of_pos_right h4 hP
     have h9:=Int.mul_le_mul_of_nonneg_left h5 (Int.le_of_lt (show(0:Int)<B64^(N+1)from Int.pow_pos hB))
     rw [Int.mul_add]at h9
     generalize vB B64 ((d64 n).take (N+1))*2^s=A at*
     generalize(B64:Int)^(N+1)*(rd (d64 n) ((N+1:Nat):Int)*2^s)=A1 at*
     generalize(B64:Int)^(N+1)*2^s=A2 at*
     generalize(B64:Int)^(N+1)*B64=A3 at*
     clear h4 h3
     omega
    rw [d64_val]at h2
    have h3:((n*2^s:Nat):Int)<((18446744073709551614+2:Nat):Int)^(N+2):=by rw [Int.natCast_mul,Int.natCast_pow];exact h2
    exact_mod_cast h3
   omega
  have hvt:=d64_trim (n*2^s) (by omega)
  rw [hlen,show N+2-1=N+1 by omega]at hvt
  have e2:wrap64 (((d64 m).length:Int)-((d64 (n*2^s)).length:Int))=(((d64 m).length-(N+2)+1:Nat):Int)-1:=by rw [w64 (by omega) (by omega)];omega
  have e3:wrap64 ((((d64 m).length-(N+2)+1:Nat):Int)-1+1)=(((d64 m).length-(N+2)+1:Nat):Int):=by rw [w64 (by omega) (by omega)];omega
  have hV:vB B64 (d64 (n*2^s))=(n:Int)*2^s:=by rw [d64_val,Int.natCast_mul,Int.natCast_pow];rfl
  have hP:(0:Int)<2^s:=Int.pow_pos (by decide)
  have dQ:(m:Int)*2^s/vB B64 (d64 (n*2^s))=((m/n:Nat):Int):=by rw [hV,Int.mul_ediv_mul_of_pos_left _ _ hP];rfl
  have dR:(m:Int)*2^s%vB B64 (d64 (n*2^s))=2^s*((m%n:Nat):Int):=by rw [hV,Int.mul_comm (m:Int),Int.mul_comm (n:Int),Int.mul_emod_mul_of_pos _ _ hP];rfl
  have start:Long ((m:Int)*2^s) (vB B64 (d64 (n*2^s))) ((d64 m).length+1) ((d64 m).length-(N+2)+1) a (List.replicate ((d64 m).length-(N+2)+1) 0) ((d64 m).length-(N+2)+1):=by
   refine⟨a1,a2,by simp,Dig_replicate hB _,?_,?_⟩
   ·
    have h1:=vB_split B64 a ((d64 m).length-(N+2)+1) (by omega)
    have h2:=vB_nonneg (Int.le_of_lt hB) (Dig_take a2 ((d64 m).length-(N+2)+1))
    have h3:=vB_lt hB (d64_dig m)
    have h4:=trim_le hB (d64_dig n) (d64_trim n) hpos
    rw [d64_val]at h3 h4
    rw [hN,show N+2-1=N+1 by omega]at h4
    rw [a3]at h1
    have h5:(B64:Int)^(d64 m).length=B64^((d64 m).length-(N+2)+1)*B64^(N+1):=by rw [←Int.pow_add];congr 1;omega
    rw [h5]at h3
    have h6:=Int.mul_lt_mul_of_pos_right h3 hP
    rw [Int.mul_assoc]at h6
    have h7:=Int.mul_le_mul_of_nonneg_right h4 (Int.le_of_lt hP)
    rw [hV]
    have hC:(0:Int)<B64^((d64 m).length-(N+2)+1):=Int.pow_pos hB
    have h8:B64^((d64 m).length-(N+2)+1)*vB B64 (a.drop ((d64 m).length-(N+2)+1))<B64^((d64 m).length-(N+2)+1)*(B64^(N+1)*2^s):=by
     generalize B64^((d64 m).length-(N+2)+1)*vB B64 (a.drop ((d64 m).length-(N+2)+1))=A at*
     generalize B64^((d64 m).length-(N+2)+1)*(B64^(N+1)*2^s)=A1 at*
     generalize(m:Int)*2^s=A2 at*
     clear h5 h7 hC h4 h3
     omega
    exact Int.lt_of_lt_of_le (Int.lt_of_mul_lt_mul_left h8 (Int.le_of_lt hC)) h7
   ·rw [a3,vB_far _ (by simp),Int.mul_zero,Int.mul_zero,Int.add_zero]
  have key:=divide_l1 (d64_dig (n*2^s)) hlen (by omega) hvt hs (by omega) (by omega) (by omega) dQ dR _ _ _ (Nat.le_refl _) start
  refine Ev.congr (f:=fun k=>(exact_shiftUp.f k (d64 n) (s:Int)).bind fun t184=>((exact_trim.f k t184).bind fun t187=>((exact_shiftUp.f k (d64 m) (s:Int)).bind fun t190=>(if 0≤(wrap64 ((wrap64 (((d64 m).length:Int)-(t187.length:Int)))+1))then(if(wrap64 ((wrap64 (((d64 m).length:Int)-(t187.length:Int)))+1):Int).toNat≤35184372088832 then(exact_divide.l1 k (s:Int) t187 t190 (t187.length:Int) (List.replicate (wrap64 ((wrap64 (((d64 m).length:Int)-(t187.length:Int)))+1):Int).toNat 0) (wrap64 (((d64 m).length:Int)-(t187.length:Int))))else(none))else(none))))) (fun k=>?_) (Ev.bind b4 (Ev.bind tb (Ev.bind a4 ?_)))
  ·rw [e1,if_pos (Int.natCast_nonneg _),if_pos (by omega),hlz,Option.bind_some]
  ·refine Ev.congr (fun k=>?_) key
   rw [e2,e3,if_pos (Int.natCast_nonneg _),Int.toNat_natCast,if_pos (by omega)]
   rw [show((d64 (n*2^s)).length:Int)=((N+2:Nat):Int)by omega]
theorem NatDivMod_ev {m n:Nat} (hm:(nat m).size≤1099511627776) (hn:(nat n).size≤1099511627776) (n0:0<n):Ev (fun k=>exact_NatDivMod.f k (nat m) (nat n)) (nat (m/n),nat (m%n)):=by
 have lm:=words_len m
 have ln:=words_len n
 have h1:(d64 (m/n)).length≤(d64 m).length:=d64_len_mono (Nat.div_le_self _ _)
 have h2:(d64 (m%n)).length≤(d64 n).length:=d64_len_mono (Nat.le_of_lt (Nat.mod_lt _ n0))
 have p1:=pack_ev (d64_dig (m/n)) (by omega)
 have p2:=pack_ev (d64_dig (m%n)) (by omega)
 rw [d64_val,Int.toNat_natCast]at p1 p2
 exact Ev.bind (words_nat hm) (Ev.bind (words_nat hn) (Ev.bind (divide_ev (by omega) (by omega) n0) (Ev.bind p1 (Ev.bind p2 (Ev.now _)))))
theorem Gcd_l0:∀(n m:Nat),(d64 m).length≤1099511627000→(d64 n).length≤1099511627000→Ev (fun k=>exact_NatGcd.l0 k (d64 m) (d64 n)) (nat (Nat.gcd m n)):=by
 intro n
 induction n using Nat.strongRecOn with
 |_ n ih=>
  intro m hm hn
  by_cases h:n=0
  ·subst h
   have p:=pack_ev (d64_dig m) (by omega)
   rw [d64_val,Int.toNat_natCast]at p
   rw [Nat.gcd_zero_right]
   refine Ev.step (f:=fun k=>(exact_pack.f k (d64 m)).bind fun t=>some t) (fun k=>?_) (Ev.bind p (Ev.now _))
   simp only [exact_NatGcd.l0]
   rw [d64_zero,if_neg (by decide)]
  ·have hpos:0<(d64 n).length:=by
    rcases Nat.eq_zero_or_pos (d64 n).length with h1|h1
    ·exfalso
     have:=d64_val n
     rw [List.eq_nil_of_length_eq_zero h1]at this
     simp [vB]at this
     omega
    ·exact h1
   have hlt:=Nat.mod_lt m (Nat.pos_of_ne_zero h)
   have hl:(d64 (m%n)).length≤(d64 n).length:=d64_len_mono (Nat.le_of_lt hlt)
   have e:Nat.gcd m n=Nat.gcd n (m%n):=by rw [Nat.gcd_comm m n,Nat.gcd_rec n m,Nat.gcd_comm]
   rw [e]
   refine Ev.step (f:=fun k=>(exact_divide.f k (d64 m) (d64 n)).bind fun bt264=>exact_NatGcd.l0 k (d64 n) bt264.2) (fun k=>?_) (Ev.bind (divide_ev hm hn (Nat.pos_of_ne_zero h)) (ih (m%n) hlt n hn (by omega)))
   simp only [exact_NatGcd.l0]
   rw [if_pos (by omega)]
theorem NatGcd_ev {m n:Nat} (hm:(nat m).size≤1099511627776) (hn:(nat n).size≤1099511627776):Ev (fun k=>exact_NatGcd.f k (nat m) (nat n)) (nat (Nat.gcd m n)):=by
 have lm:=words_len m
 have ln:=words_len n
 exact Ev.bind (words_nat hm) (Ev.bind (words_nat hn) (Gcd_l0 n m (by omega) (by omega)))
theorem nat_empty {n:Nat}:(nat n).toList=([]:List UInt8)↔n=0:=by rw [toList_nil,nat_size_zero]
def bl (n:Nat):Nat:=if n=0 then 0 else n.log2+1
abbrev B32:Int:=4294967296
def d32 (n:Nat):List Int:=dgs 4294967294 n
theorem d32_dig (n:Nat):Dig B32 (d32 n):=(dgs_spec 4294967294 n).1
theorem d32_trim (n:Nat):Trim (d32 n):=(dgs_spec 4294967294 n).2.1
theorem d32_val (n:Nat):vB B32 (d32 n)=n:=(dgs_spec 4294967294 n).2.2
theorem d32_unique {l:List Int} {n:Nat} (hl:Dig B32 l) (ht:Trim l) (hv:vB B32 l=n):l=d32 n:=dgs_unique hl ht hv
theorem d32_zero:d32 0=[]:=dgs_zero _
theorem limbs_len (n:Nat):(d32 n).length≤((nat n).size+3)/4:=by
 apply dgs_len
 have h1:=nat_lt_size n
 have h2:256^(nat n).size≤256^(4*(((nat n).size+3)/4)):=Nat.pow_le_pow_right (by decide) (by omega)
 rw [Nat.pow_mul]at h2
 exact Nat.lt_of_lt_of_le h1 h2
theorem rtrim_ev:∀(n:Nat) (l:List Int),l.length=n→n<9223372036854775808→Dig B32 l→Ev (fun k=>galoisref01_trim.f k l) (d32 (vB B32 l).toNat):=by
 intro n
 induction n with
 |zero=>
  intro l hl _ hd
  rw [List.eq_nil_of_length_eq_zero hl]
  refine Ev.step (f:=fun _=>some []) (fun k=>?_) (by
   show Ev (fun _=>some []) (d32 0)
   rw [d32_zero]
   exact Ev.now _)
  simp [galoisref01_trim.f,galoisref01_trim.l0]
 |succ n ih=>
  intro l hl hn hd
  have hv:=vB_nonneg (by decide) hd
  have e1:wrap64 ((l.length:Int)-1)=(n:Int):=by rw [w64 (by omega) (by omega)];omega
  have hvs:=take_succ B32 l n
  rw [vB_all _ _ _ (by omega)]at hvs
  by_cases hz:rd l (n:Int)=0
  ·rw [hz,Int.mul_zero,Int.add_zero]at hvs
   rw [hvs]
   refine Ev.step (f:=fun k=>galoisref01_trim.f k (l.take n)) (fun k=>?_) (ih _ (by rw [List.length_take];omega) (by omega) (Dig_take hd _))
   simp only [galoisref01_trim.f,galoisref01_trim.l0,e1]
   rw [if_pos (by omega),if_pos (by omega),if_pos (by omega),if_pos hz,if_pos (by omega),Int.toNat_natCast]
  ·have:l=d32 (vB B32 l).toNat:=d32_unique hd (fun _=>by rw [hl,Nat.add_sub_cancel];exact hz) (by omega)
   rw [←this]
   refine Ev.step (f:=fun _=>some l) (fun k=>?_) (Ev.now _)
   simp only [galoisref01_trim.f,galoisref01_trim.l0,e1]
   rw [if_pos (by omega),if_pos (by omega),if_pos (by omega),if_neg hz]
theorem trimV_eq:∀(k:Nat) (l:List Int),galoisref01_trimV.l0 k l=galoisref01_trim.l0 k l:=by
 intro k
 induction k with
 |zero=>intro l;rfl
 |succ k ih=>intro l;simp only [galoisref01_trimV.l0,galoisref01_trim.l0,ih]
theorem rtrimV_ev {l:List Int} (hn:l.length<9223372036854775808) (hd:Dig B32 l):Ev (fun k=>galoisref01_trimV.f k l) (d32 (vB B32 l).toNat):=
 Ev.congr (fun k=>trimV_eq k l) (rtrim_ev _ l rfl hn hd)
def win (s:ByteArray) (a b:Nat):Int:=vB 256 (((bytesOf s).take b).drop a).reverse
theorem win_self (s:ByteArray) (a:Nat):win s a a=0:=by
 unfold win
 rw [List.drop_of_length_le (by rw [List.length_take];omega)]
 rfl
theorem win_succ (s:ByteArray) (a b:Nat) (hab:a≤b) (hb:b<s.size):win s a (b+1)=win s a b*256+bt s (b:Int):=by
 unfold win
 rw [List.take_succ_eq_append_getElem (by rw [bytesOf_length];exact hb),List.drop_append_of_le_length (by rw [List.length_take,bytesOf_length];omega),List.reverse_append,List.reverse_singleton,List.singleton_append,vB_cons,bt_rd,rd_get _ b (by rw [bytesOf_length];exact hb)]
 omega
theorem win_range (s:ByteArray) (a b:Nat) (hab:a≤b) (hb:b≤s.size):0≤win s a b∧win s a b<256^(b-a):=by
 have hd:Dig 256 (((bytesOf s).take b).drop a).reverse:=Dig_reverse (Dig_drop (Dig_take (bytesOf_dig s) _) _)
 refine⟨vB_nonneg (by decide) hd,?_⟩
 have:=vB_lt (by decide) hd
 rw [List.length_reverse,List.length_drop,List.length_take,bytesOf_length,Nat.min_eq_left hb]at this
 exact this
theorem win_join (s:ByteArray) (a b c:Nat) (hab:a≤b) (hbc:b≤c) (hc:c≤s.size):win s a c=win s b c+256^(c-b)*win s a b:=by
 obtain⟨d,rfl⟩:∃d,c=b+d:=⟨c-b,by omega⟩
 induction d with
 |zero=>
  rw [Nat.add_zero,win_self,Nat.sub_self,Int.pow_zero,Int.one_mul,Int.zero_add]
 |succ d ih=>
  rw [←Nat.add_assoc,win_succ s a _ (by omega) (by omega),win_succ s b _ (by omega) (by omega),ih (by omega) (by omega)]
  rw [show b+d+1-b=(b+d-b)+1 by omega,Int.pow_succ,Int.mul_right_comm]
  generalize 256^(b+d-b)*win s a b=X
  omega
theorem win_all (s:ByteArray):win s 0 s.size=bval s:=by
 unfold win bval
 rw [List.drop_zero,List.take_of_length_le (by rw [bytesOf_length];exact Nat.le_refl _)]
theorem limbs_l1 (s:ByteArray) (hs:s.size≤1099511627776) (out:List Int) (lo:Nat) (hlo:out.length≤1099511627776) (e:Nat) (he:e≤s.size) (hle:lo≤e) (h4:e≤lo+4) (r:List Int)
  (next:Ev (fun k=>galoisref01_limbs.l0 k s (out++[win s lo e]) ((e:Int)-4)) r):∀(d i:Nat),i+d=e→lo≤i→Ev (fun k=>galoisref01_limbs.l1 k s out (e:Int) (win s lo i) (i:Int)) r:=by
 intro d
 induction d with
 |zero=>
  intro i hi hl
  have hi:i=e:=by omega
  subst hi
  have e1:wrap64 ((i:Int)-4)=(i:Int)-4:=w64 (by omega) (by omega)
  refine Ev.step (fun k=>?_) next
  simp only [galoisref01_limbs.l1,e1]
  rw [if_neg (Int.lt_irrefl _),if_pos (by omega)]
 |succ d ih=>
  intro i hi hl
  have c1:(i:Int)<(e:Int):=by omega
  have c2:(i:Int)<(s.size:Int):=by omega
  have e1:wrap64 ((i:Int)+1)=((i+1:Nat):Int):=by rw [w64 (by omega) (by omega)];omega
  obtain⟨w0,w1⟩:=win_range s lo i hl (by omega)
  have w2:win s lo i<16777216:=by
   refine Int.lt_of_lt_of_le w1 ?_
   exact pow_le_pow (B:=256) (by decide) (show i-lo≤3 by omega)
  obtain⟨b0,b1⟩:=bt_range s (i:Int)
  have e2:IntKind.u64.wrap (IntKind.u64.wrap (win s lo i*256)+IntKind.u64.wrap (bt s (i:Int)))=win s lo (i+1):=by
   rw [win_succ s lo i hl (by omega),u64 (x:=win s lo i*256) (by omega) (by omega),u64 (x:=bt s (i:Int)) (by omega) (by omega),u64 (by omega) (by omega)]
  refine Ev.step (f:=fun k=>galoisref01_limbs.l1 k s out (e:Int) (win s lo (i+1)) ((i+1:Nat):Int)) (fun k=>?_) (ih (i+1) (by omega) (by omega))
  simp only [galoisref01_limbs.l1,e1,e2]
  rw [if_pos c1,if_pos (Int.natCast_nonneg _),if_pos c2]
theorem limbs_end (s:ByteArray) (out:List Int) (hd:Dig B32 out) (hl:out.length≤1099511627776) (hv:vB B32 out=bval s) (x:Int) (hx:¬x>0):Ev (fun k=>galoisref01_limbs.l0 k s out x) (d32 (bval s).toNat):=by
 have h:=rtrim_ev out.length out rfl (by omega) hd
 rw [hv]at h
 refine Ev.step (f:=fun k=>(galoisref01_trim.f k out).bind fun t=>some t) (fun k=>?_) (Ev.bind h (Ev.now _))
 simp only [galoisref01_limbs.l0]
 rw [if_neg hx]
theorem limbs_l0 (s:ByteArray) (hs:s.size≤1099511627776):∀(e:Nat) (out:List Int),e≤s.size→4*out.length=s.size-e→Dig B32 out→vB B32 out=win s e s.size→Ev (fun k=>galoisref01_limbs.l0 k s out (e:Int)) (d32 (bval s).toNat):=by
 intro e
 induction e using Nat.strongRecOn with
 |_ e ih=>
  intro out he hl hd hv
  by_cases h0:e=0
  ·subst h0
   exact limbs_end s out hd (by omega) (by rw [hv,win_all]) _ (by omega)
  ·have hmx:mx 0 (wrap64 ((e:Int)-4))=((e-4:Nat):Int):=by
    rw [w64 (by omega) (by omega)]
    unfold mx
    split<;>omega
   have hw:=win_range s (e-4) e (by omega) he
   have hw1:win s (e-4) e<B32:=by
    refine Int.lt_of_lt_of_le hw.2 ?_
    exact pow_le_pow (B:=256) (by decide) (show e-(e-4)≤4 by omega)
   have hd':Dig B32 (out++[win s (e-4) e]):=Dig_append hd (Dig_cons.2 ⟨⟨hw.1,hw1⟩,Dig_nil _⟩)
   have hpow:(B32:Int)^out.length=256^(s.size-e):=by
    rw [←hl,Int.pow_mul]
    rfl
   have hv':vB B32 (out++[win s (e-4) e])=win s (e-4) s.size:=by
    rw [vB_append,hpow,hv,win_join s (e-4) e s.size (by omega) he (Nat.le_refl _)]
    simp [vB]
   refine Ev.step (f:=fun k=>galoisref01_limbs.l1 k s out (e:Int) (win s (e-4) (e-4)) ((e-4:Nat):Int)) (fun k=>?_) (limbs_l1 s hs out (e-4) (by omega) e he (by omega) (by omega) _ ?_ (e-(e-4)) (e-4) (by omega) (Nat.le_refl _))
   ·simp only [galoisref01_limbs.l0,hmx]
    rw [if_pos (by omega),win_self]
   ·by_cases h4:e≤4
    ·refine limbs_end s _ hd' (by rw [List.length_append];simp;omega) ?_ _ (by omega)
     rw [hv',show e-4=0 by omega,win_all]
    ·have:=ih (e-4) (by omega) (out++[win s (e-4) e]) (by omega) (by rw [List.length_append];simp;omega) hd' hv'
     rwa [show((e-4:Nat):Int)=(e:Int)-4 by omega]at this
theorem limbs_ev (s:ByteArray) (hs:s.size≤1099511627776):Ev (fun k=>galoisref01_limbs.f k s) (d32 (bval s).toNat):=
 limbs_l0 s hs s.size [] (Nat.le_refl _) (by simp) (Dig_nil _) (by rw [win_self];rfl)
theorem limbs_nat {n:Nat} (hs:(nat n).size≤1099511627776):Ev (fun k=>galoisref01_limbs.f k (nat n)) (d32 n):=by
 have:=limbs_ev (nat n) hs
 rwa [bval_nat,Int.toNat_natCast]at this
theorem d8_push {N x:Nat} (hx:x<256) (h:N*256+x≠0):d8 (N*256+x)=(x:Int)::d8 N:=by
 unfold d8
 rw [dgs_pos _ _ h,show(N*256+x)%(254+2)=x by omega,show(N*256+x)/(254+2)=N by omega]
theorem rpack_byte {N x:Nat} (hx:x<256):(if(((d8 N).reverse.length:Int)>0)then(d8 N).reverse++[(x:Int)]else if(x:Int)>0 then(d8 N).reverse++[(x:Int)]else(d8 N).reverse)=(d8 (N*256+x)).reverse:=by
 by_cases h:N*256+x=0
 ·have hN:N=0:=by omega
  have hx0:x=0:=by omega
  subst hN hx0
  have:d8 0=[]:=dgs_zero _
  rw [show 0*256+0=0 from rfl,this]
  simp
 ·rw [d8_push hx h,List.reverse_cons]
  by_cases h1:((d8 N).reverse.length:Int)>0
  ·rw [if_pos h1]
  ·rw [if_neg h1,if_pos]
   have:N=0:=by
    rcases Nat.eq_zero_or_pos N with h2|h2
    ·exact h2
    ·exfalso
     have h3:(nat N).size≠0:=fun h4=>by have:=nat_size_zero.1 h4;omega
     rw [nat_size]at h3
     rw [List.length_reverse]at h1
     omega
   omega
theorem rpack_l1 {l:List Int} {V:Nat} (hd:Dig B32 l) (hl:l.length≤1099511627776) (hV:(nat V).size≤4398046511104) {i H D:Nat} (hi:i<l.length) (hD:rd l (i:Int)=D) (hle:H*4294967296+D≤V) {r:ByteArray}
  (next:Ev (fun k=>galoisref01_pack.l0 k l (d8 (H*4294967296+D)).reverse ((i:Int)-1)) r):∀(c N:Nat),c≤4→N=H*256^(4-c)+D/256^c→Ev (fun k=>galoisref01_pack.l1 k l (d8 N).reverse (i:Int) (8*(c:Int)-8)) r:=by
 have hD32:D<4294967296:=by
  have h:=(Dig_rd hd i hi).2
  rw [hD]at h
  exact Int.ofNat_lt.1 h
 intro c
 induction c with
 |zero=>
  intro N _ hN
  have hN:N=H*4294967296+D:=by simpa using hN
  rw [hN]
  have e1:wrap64 ((i:Int)-1)=(i:Int)-1:=w64 (by omega) (by omega)
  refine Ev.step (fun k=>?_) next
  simp only [galoisref01_pack.l1,e1]
  rw [if_neg (by decide)]
 |succ c ih=>
  intro N hc hN
  have hcase:c=0∨c=1∨c=2∨c=3:=by omega
  have hNV:N≤V:=by
   refine Nat.le_trans ?_ hle
   rw [hN]
   exact Nat.add_le_add (Nat.mul_le_mul_left H (Nat.pow_le_pow_right (show 0<256 by decide) (show 4-(c+1)≤4 from Nat.sub_le _ _))) (Nat.div_le_self _ _)
  have hb:∃x:Nat,x<256∧(shr .u64 (rd l (i:Int)) (8*((c+1:Nat):Int)-8))%256=(x:Int)∧N*256+x=H*256^(4-c)+D/256^c:=by
   refine⟨D/256^c%256,Nat.mod_lt _ (by decide),?_,?_⟩
   ·rw [show 8*((c+1:Nat):Int)-8=((8*c:Nat):Int)by omega,shr_eq _ _ (by omega),hD]
    rcases hcase with rfl|rfl|rfl|rfl<;>simp<;>omega
   ·rw [hN]
    rcases hcase with rfl|rfl|rfl|rfl<;>simp<;>omega
  obtain⟨x,x1,x2,x3⟩:=hb
  have hsz:(d8 N).reverse.length<140737488355328:=by
   have:=size_mono hNV
   rw [nat_size]at this
   rw [List.length_reverse]
   omega
  have e1:wrap64 (8*((c+1:Nat):Int)-8-8)=8*(c:Int)-8:=by rw [w64 (by omega) (by omega)];omega
  refine Ev.step (f:=fun k=>galoisref01_pack.l1 k l (d8 (N*256+x)).reverse (i:Int) (8*(c:Int)-8)) (fun k=>?_) (ih (N*256+x) (by omega) x3)
  rw [←rpack_byte x1]
  simp only [galoisref01_pack.l1,e1,x2]
  rw [if_pos (by omega),if_pos (by omega),if_pos (by omega),if_pos (by omega)]
  by_cases h1:((d8 N).reverse.length:Int)>0
  ·rw [if_pos h1,if_pos hsz,if_pos h1]
  ·rw [if_neg h1,if_neg h1]
   by_cases h2:(x:Int)>0
   ·rw [if_pos h2,if_pos hsz,if_pos h2]
   ·rw [if_neg h2,if_neg h2]
theorem rpack_l0 {l:List Int} {V:Nat} (hd:Dig B32 l) (hl:l.length≤1099511627776) (hV:(nat V).size≤4398046511104) (hv:vB B32 l=V):∀(J H:Nat),J≤l.length→vB B32 (l.drop J)=H→Ev (fun k=>galoisref01_pack.l0 k l (d8 H).reverse ((J:Int)-1)) (nat V):=by
 intro J
 induction J with
 |zero=>
  intro H _ hH
  rw [List.drop_zero,hv]at hH
  have e:H=V:=by omega
  subst e
  refine Ev.step (f:=fun _=>some (nat H)) (fun k=>?_) (Ev.now _)
  simp only [galoisref01_pack.l0]
  rw [if_neg (by decide)]
  rfl
 |succ i ih=>
  intro H hJ hH
  have hi:i<l.length:=by omega
  obtain⟨D,hD⟩:=Int.eq_ofNat_of_zero_le (Dig_rd hd i hi).1
  have hds:=drop_succ B32 l i hi
  rw [hH,hD]at hds
  have hds':vB B32 (l.drop i)=((H*4294967296+D:Nat):Int):=by
   rw [hds]
   show(D:Int)+4294967296*(H:Int)=_
   omega
  have hle:H*4294967296+D≤V:=by
   have h1:=vB_split B32 l i (by omega)
   have h2:=vB_nonneg (show(0:Int)≤B32 by decide) (Dig_take hd i)
   have h3:(1:Int)≤B32^i:=by have:(0:Int)<B32^i:=Int.pow_pos (by decide);omega
   have h4:=Int.mul_le_mul_of_nonneg_right h3 (show 0≤vB B32 (l.drop i)from vB_nonneg (by decide) (Dig_drop hd i))
   rw [Int.one_mul]at h4
   rw [hv]at h1
   rw [hds']at h1 h4
   generalize B32^i*((H*4294967296+D:Nat):Int)=X at*
   clear h3
   omega
  refine Ev.congr (f:=fun k=>galoisref01_pack.l0 k l (d8 H).reverse (i:Int)) (fun k=>by rw [show((i+1:Nat):Int)-1=(i:Int)by omega]) ?_
  refine Ev.step (f:=fun k=>galoisref01_pack.l1 k l (d8 H).reverse (i:Int) (8*((4:Nat):Int)-8)) (fun k=>?_) (rpack_l1 hd hl hV hi hD hle (ih _ (by omega) hds') 4 H (Nat.le_refl _) ?_)
  ·simp only [galoisref01_pack.l0]
   rw [if_pos (by omega)]
   rfl
  ·have hD32:D<4294967296:=by
    have h:=(Dig_rd hd i hi).2
    rw [hD]at h
    exact Int.ofNat_lt.1 h
   simp
   omega
theorem rpack_ev {l:List Int} (hd:Dig B32 l) (hl:l.length≤1099511627776):Ev (fun k=>galoisref01_pack.f k l) (nat (vB B32 l).toNat):=by
 have hv:=vB_nonneg (show(0:Int)≤B32 by decide) hd
 have hV:(nat (vB B32 l).toNat).size≤4398046511104:=by
  have h:(nat (vB B32 l).toNat).size≤4*l.length:=by
   apply nat_size_le.2
   have h1:=vB_lt (show(0:Int)<B32 by decide) hd
   rw [Nat.pow_mul]
   have h2:(((vB B32 l).toNat:Nat):Int)<((4294967296^l.length:Nat):Int):=by
    rw [Int.toNat_of_nonneg hv,Int.natCast_pow]
    exact h1
   exact Int.ofNat_lt.1 h2
  omega
 have e1:wrap64 ((l.length:Int)-1)=(l.length:Int)-1:=w64 (by omega) (by omega)
 have:=rpack_l0 hd hl hV (show vB B32 l=(((vB B32 l).toNat:Nat):Int)by omega) l.length 0 (Nat.le_refl _) (by rw [List.drop_of_length_le (Nat.le_refl _)];rfl)
 refine Ev.congr (fun k=>?_) this
 unfold galoisref01_pack.f
 rw [e1,show d8 0=[]from dgs_zero _]
 rfl
theorem and32 {x:Int} (h0:0≤x) (h1:x<18446744073709551616):Go.bits .and .u64 x 4294967295=x%B32:=and_low h0 h1
def d10 (n:Nat):List Int:=dgs 8 n
def txt (D:List Int):List Int:=D.map (fun x=>48+x)
def dec (n:Nat):ByteArray:=if n=0 then⟨#[48]⟩else strOfNums (txt (d10 n)).reverse
def digit (s:ByteArray) (i:Nat):Prop:=48≤bt s (i:Int)∧bt s (i:Int)≤57
instance (s:ByteArray) (i:Nat):Decidable (digit s i):=by unfold digit;infer_instance
def digits (s:ByteArray):Prop:=∀i:Nat,i<s.size→digit s i
instance (s:ByteArray):Decidable (digits s):=by unfold digits;infer_instance
def bad0 (s:ByteArray):Prop:=s.size=0∨(1<s.size∧bt s 0=48)
instance (s:ByteArray):Decidable (bad0 s):=by unfold bad0;infer_instance
theorem rOf_ev {u:Nat} (hu:u<18446744073709551616):Ev (fun k=>galoisref01_Of.f k (u:Int)) (nat u):=by
 have a1:=and32 (x:=(u:Int)) (by omega) (by omega)
 have hd:Dig B32 [(u:Int)%B32,(u:Int)/4294967296]:=Dig_cons.2 ⟨⟨Int.emod_nonneg _ (by decide),Int.emod_lt_of_pos _ (by decide)⟩,Dig_cons.2 ⟨⟨by omega,by show _<(4294967296:Int);omega⟩,Dig_nil _⟩⟩
 have p:=rpack_ev hd (by simp)
 have hv:vB B32 [(u:Int)%B32,(u:Int)/4294967296]=u:=by
  show(u:Int)%4294967296+4294967296*((u:Int)/4294967296+4294967296*0)=u
  omega
 rw [hv,Int.toNat_natCast]at p
 refine Ev.congr (f:=fun k=>(galoisref01_pack.f k [(u:Int)%B32,(u:Int)/4294967296]).bind fun t=>some t) (fun k=>?_) (Ev.bind p (Ev.now _))
 unfold galoisref01_Of.f
 rw [a1]
theorem rtop_lt {x y:List Int} (hx:Dig B32 x) (hy:Dig B32 y) {i:Nat} (hi:i<x.length) (hi':i<y.length) (hd:vB B32 (x.drop (i+1))=vB B32 (y.drop (i+1))) (h:rd x (i:Int)<rd y (i:Int)):vB B32 x<vB B32 y:=by
 have hB:(0:Int)<B32:=by decide
 have hsx:=vB_split B32 x (i+1) (by omega)
 have hsy:=vB_split B32 y (i+1) (by omega)
 rw [take_succ]at hsx hsy
 have ax:=vB_lt hB (Dig_take hx i)
 rw [List.length_take,Nat.min_eq_left (by omega)]at ax
 have bb:=vB_nonneg (Int.le_of_lt hB) (Dig_take hy i)
 rw [hd]at hsx
 have hP:(0:Int)<B32^i:=Int.pow_pos hB
 rw [hsx,hsy]
 generalize vB B32 (x.take i)=X at*
 generalize vB B32 (y.take i)=Y at*
 generalize B32^(i+1)*vB B32 (y.drop (i+1))=Z at*
 generalize(B32:Int)^i=P at*
 generalize rd x (i:Int)=a at*
 generalize rd y (i:Int)=b at*
 have h1:=Int.mul_le_mul_of_nonneg_left (show a+1≤b by omega) (Int.le_of_lt hP)
 rw [Int.mul_add,Int.mul_one]at h1
 clear hsx hsy hd
 omega
theorem below_l0 (x y:List Int) (hx:Dig B32 x) (hy:Dig B32 y) (hl:x.length=y.length) (hs:x.length<9223372036854775808) {m n:Nat} (hm:vB B32 x=m) (hn:vB B32 y=n):∀i:Nat,i≤x.length→vB B32 (x.drop i)=vB B32 (y.drop i)→Ev (fun k=>galoisref01_below.l0 k x y ((i:Int)-1)) (decide (m<n)):=by
 intro i
 induction i with
 |zero=>
  intro _ hd
  rw [List.drop_zero,List.drop_zero,hm,hn]at hd
  have e:¬m<n:=by omega
  rw [decide_eq_false e]
  refine Ev.step (f:=fun _=>some false) (fun k=>?_) (Ev.now _)
  simp only [galoisref01_below.l0]
  rw [if_neg (by decide)]
 |succ i ih=>
  intro hi hd
  have e0:((i+1:Nat):Int)-1=(i:Int):=by omega
  have e1:wrap64 ((i:Int)-1)=(i:Int)-1:=w64 (by omega) (by omega)
  have c1:(i:Int)≥0:=by omega
  have c2:(i:Int)<(x.length:Int):=by omega
  have c3:(i:Int)<(y.length:Int):=by omega
  rw [e0]
  by_cases he:rd x (i:Int)=rd y (i:Int)
  ·refine Ev.step (f:=fun k=>galoisref01_below.l0 k x y ((i:Int)-1)) (fun k=>?_) (ih (by omega) ?_)
   ·simp only [galoisref01_below.l0,e1]
    rw [if_pos c1,if_pos c1,if_pos c2,if_pos c3,if_pos he]
   ·rw [drop_succ B32 x i (by omega),drop_succ B32 y i (by omega),hd,he]
  ·have hdec:decide (rd x (i:Int)<rd y (i:Int))=decide (m<n):=by
    by_cases hab:rd x (i:Int)<rd y (i:Int)
    ·have h1:=rtop_lt hx hy (by omega) (by omega) hd hab
     rw [decide_eq_true hab,decide_eq_true (by rw [hm,hn]at h1;omega)]
    ·have h1:=rtop_lt hy hx (by omega) (by omega) hd.symm (show rd y (i:Int)<rd x (i:Int)by omega)
     rw [decide_eq_false hab,decide_eq_false (by rw [hm,hn]at h1;omega)]
   refine Ev.step (f:=fun _=>some (decide (m<n))) (fun k=>?_) (Ev.now _)
   simp only [galoisref01_below.l0,e1]
   rw [if_pos c1,if_pos c1,if_pos c2,if_pos c3,if_neg he,hdec]
theorem below_ev {l:List Int} {n R:Nat} (hd:Dig B32 l) (hl:l.length<9223372036854775808) (hR:vB B32 l=R) (hn:(d32 n).length<9223372036854775808):Ev (fun k=>galoisref01_below.f k l (d32 n)) (decide (R<n)):=by
 have ht:=rtrimV_ev hl hd
 rw [hR,Int.toNat_natCast]at ht
 have hRl:(d32 R).length<9223372036854775808:=by
  have:(d32 R).length≤l.length:=dgs_len (by
   have h1:=vB_lt (show(0:Int)<B32 by decide) hd
   rw [hR]at h1
   have h2:((R:Nat):Int)<((4294967294+2:Nat):Int)^l.length:=h1
   rw [←Int.natCast_pow]at h2
   exact Int.ofNat_lt.1 h2)
  omega
 refine Ev.bind ht ?_
 by_cases h1:(d32 R).length=(d32 n).length
 ·have:=below_l0 (d32 R) (d32 n) (d32_dig R) (d32_dig n) h1 hRl (d32_val R) (d32_val n) (d32 R).length (Nat.le_refl _) (by
   rw [List.drop_of_length_le (Nat.le_refl _),List.drop_of_length_le (by omega)])
  refine Ev.congr (fun k=>?_) this
  rw [if_pos (by omega),w64 (by omega) (by omega)]
 ·have hdec:decide (((d32 R).length:Int)<((d32 n).length:Int))=decide (R<n):=by
   by_cases h2:(d32 R).length<(d32 n).length
   ·have h3:=trim_len (by decide) (d32_dig R) (d32_dig n) (d32_trim n) h2
    rw [d32_val,d32_val]at h3
    rw [decide_eq_true (by omega),decide_eq_true (by omega)]
   ·have h3:=trim_len (by decide) (d32_dig n) (d32_dig R) (d32_trim R) (by omega)
    rw [d32_val,d32_val]at h3
    rw [decide_eq_false (by omega),decide_eq_false (by omega)]
  refine Ev.congr (f:=fun _=>some (decide (R<n))) (fun k=>?_) (Ev.now _)
  rw [if_neg (by omega),hdec]
def RSm (u y z:List Int) (g:Int) (K i:Nat) (c:Int):Prop:=
 z.length=u.length∧Dig B32 z∧(0≤c∧c<B32)∧z.take K=u.take K∧z.drop (K+i)=u.drop (K+i)∧vB B32 z+B32^K*(g*vB B32 (y.take i))=vB B32 u+B32^(K+i)*c
theorem take_set_far {l:List Int} {K j:Nat} (h:K≤j) (x:Int):(l.set j x).take K=l.take K:=List.take_set_of_le h
theorem rsm_digit {z y g c:Int} (z0:0≤z) (z1:z<B32) (y0:0≤y) (y1:y<B32) (g0:0≤g) (g1:g<B32) (c0:0≤c) (c1:c<B32):
  IntKind.u64.wrap (IntKind.u64.wrap (y*g)+c)=y*g+c∧Go.bits .and .u64 (y*g+c) 4294967295=(y*g+c)%B32∧0≤(y*g+c)/B32∧(y*g+c)/B32<B32∧0≤(y*g+c)%B32∧(y*g+c)%B32<B32∧(z<(y*g+c)%B32→(y*g+c)/B32+1<B32):=by
 have z1':z<4294967296:=z1
 have y1':y<4294967296:=y1
 have g1':g<4294967296:=g1
 have c1':c<4294967296:=c1
 have hp:=mul_range y0 (show y≤4294967295 by omega) g0 (show g≤4294967295 by omega)
 have h1:(4294967295:Int)*4294967295=18446744065119617025:=rfl
 rw [h1]at hp
 rw [and32 (x:=y*g+c) (by omega) (by omega)]
 show IntKind.u64.wrap (IntKind.u64.wrap (y*g)+c)=y*g+c∧(y*g+c)%4294967296=(y*g+c)%4294967296∧0≤(y*g+c)/4294967296∧(y*g+c)/4294967296<4294967296∧0≤(y*g+c)%4294967296∧(y*g+c)%4294967296<4294967296∧(z<(y*g+c)%4294967296→(y*g+c)/4294967296+1<4294967296)
 generalize y*g=p at*
 clear y0 y1 y1' g0 g1 g1' z1 c1 h1
 rw [u64 (x:=p) (by omega) (by omega),u64 (x:=p+c) (by omega) (by omega)]
 omega
theorem rsm_step {u y z:List Int} {g c d e:Int} {K i:Nat} (hj:K+i<z.length) (h:RSm u y z g K i c) (d0:0≤d) (d1:d<B32) (he:0≤(rd y (i:Int)*g+c)/B32+e) (he1:(rd y (i:Int)*g+c)/B32+e<B32)
  (hd:d=rd z ((K+i:Nat):Int)-(rd y (i:Int)*g+c)%B32+B32*e):RSm u y (z.set (K+i) d) g K (i+1) ((rd y (i:Int)*g+c)/B32+e):=by
 obtain⟨hl,hdg,hc,ht,hdr,hv⟩:=h
 refine⟨by rw [List.length_set];exact hl,Dig_set hdg _ d0 d1,⟨he,he1⟩,by rw [take_set_far (by omega)];exact ht,?_,?_⟩
 ·rw [←Nat.add_assoc,drop_set,←List.drop_drop,hdr,List.drop_drop]
 ·rw [vB_set _ _ _ _ hj,take_succ,←Nat.add_assoc,Int.pow_succ,hd]
  have em:=Int.emod_add_mul_ediv (rd y (i:Int)*g+c) B32
  generalize(rd y (i:Int)*g+c)/B32=q at*
  generalize(rd y (i:Int)*g+c)%B32=r at*
  have er:rd z ((K+i:Nat):Int)-r+B32*e-rd z ((K+i:Nat):Int)=B32*(q+e)-rd y (i:Int)*g-c:=by
   rw [Int.mul_add]
   clear hv
   omega
  have ep:(B32:Int)^(K+i)=B32^K*B32^i:=Int.pow_add _ _ _
  rw [er,Int.mul_sub,Int.mul_sub,Int.mul_assoc (B32^(K+i)) B32]
  have e3:B32^K*(g*(vB B32 (y.take i)+B32^i*rd y (i:Int)))=B32^K*(g*vB B32 (y.take i))+B32^(K+i)*(rd y (i:Int)*g):=by
   rw [ep,Int.mul_add g,Int.mul_add (B32^K),Int.mul_left_comm g (B32^i),←Int.mul_assoc (B32^K) (B32^i),Int.mul_comm g (rd y _)]
  rw [e3]
  generalize B32^(K+i)*(B32*(q+e))=A1 at*
  generalize B32^(K+i)*(rd y (i:Int)*g)=A2 at*
  generalize B32^(K+i)*c=A3 at*
  generalize B32^K*(g*vB B32 (y.take i))=A4 at*
  clear ep er em
  omega
theorem rsm_end {u y z:List Int} {g c:Int} {K N:Nat} (hN:y.length=N) (hKN:K+N<u.length) (hu:Dig B32 u) (hy:Dig B32 y) (h:RSm u y z g K N c) (hg:g*vB B32 y≤vB B32 (u.drop K)) (hR:vB B32 (u.drop K)<vB B32 y*B32):
  0≤rd z ((K+N:Nat):Int)-c∧rd z ((K+N:Nat):Int)-c<B32∧(z.set (K+N) (rd z ((K+N:Nat):Int)-c)).length=u.length∧Dig B32 (z.set (K+N) (rd z ((K+N:Nat):Int)-c))∧
  vB B32 ((z.set (K+N) (rd z ((K+N:Nat):Int)-c)).drop K)=vB B32 (u.drop K)-g*vB B32 y∧vB B32 (z.set (K+N) (rd z ((K+N:Nat):Int)-c))+B32^K*(g*vB B32 y)=vB B32 u:=by
 have hB:(0:Int)<B32:=by decide
 obtain⟨hl,hd,hc,ht,hdr,hv⟩:=h
 rw [vB_all _ _ _ (by rw [hN];exact Nat.le_refl _)]at hv
 have hj:K+N<z.length:=by omega
 obtain⟨z0,z1⟩:=Dig_rd hd (K+N) hj
 have hy1:=vB_lt hB hy
 rw [hN]at hy1
 have s2:=vB_split B32 (u.drop K) (N+1) (by rw [List.length_drop];omega)
 rw [List.drop_drop]at s2
 have p1:=vB_nonneg (Int.le_of_lt hB) (Dig_take (Dig_drop hu K) (N+1))
 have p2:=vB_nonneg (Int.le_of_lt hB) (Dig_drop hu (K+(N+1)))
 have hzero:vB B32 (u.drop (K+(N+1)))=0:=by
  rcases Int.lt_or_le (vB B32 (u.drop (K+(N+1)))) 1 with h|h
  ·clear hv hy1 s2 hR hg;omega
  ·exfalso
   have h1:=Int.mul_le_mul_of_nonneg_left h (Int.le_of_lt (show(0:Int)<B32^(N+1)from Int.pow_pos hB))
   rw [Int.mul_one]at h1
   have h2:=Int.mul_lt_mul_of_pos_right hy1 hB
   have h3:(B32:Int)^(N+1)=B32^N*B32:=Int.pow_succ _ _
   rw [h3]at h1 s2
   generalize(B32:Int)^N*B32=P at*
   generalize P*vB B32 (u.drop (K+(N+1)))=A at*
   clear hv hy1 hg h3
   omega
 have s3:=vB_split B32 z (K+N) (by omega)
 have s4:vB B32 (z.drop (K+N))=rd z ((K+N:Nat):Int):=by
  have h1:=drop_succ B32 z (K+N) hj
  have h2:z.drop (K+N+1)=u.drop (K+(N+1)):=by rw [←List.drop_drop,hdr,List.drop_drop,Nat.add_assoc]
  rw [h2,hzero,Int.mul_zero,Int.add_zero]at h1
  exact h1
 have l0:=vB_nonneg (Int.le_of_lt hB) (Dig_take hd (K+N))
 have l1:=vB_lt hB (Dig_take hd (K+N))
 rw [List.length_take,Nat.min_eq_left (by clear hv hy1 s2 s3;omega)]at l1
 have s5:=vB_split B32 u K (by clear hv hy1 s2 s3 l1;omega)
 have l2:=vB_nonneg (Int.le_of_lt hB) (Dig_take hu K)
 have hge:c≤rd z ((K+N:Nat):Int):=by
  rcases Int.lt_or_le (rd z ((K+N:Nat):Int)) c with h|h
  ·exfalso
   have h1:=Int.mul_le_mul_of_nonneg_left (show rd z ((K+N:Nat):Int)+1≤c by clear hv hy1 s2 s3 l1 s5;omega) (Int.le_of_lt (show(0:Int)<B32^(K+N)from Int.pow_pos hB))
   rw [Int.mul_add,Int.mul_one]at h1
   have h2:=Int.mul_le_mul_of_nonneg_left hg (Int.le_of_lt (show(0:Int)<B32^K from Int.pow_pos hB))
   rw [s4]at s3
   generalize B32^(K+N)*rd z ((K+N:Nat):Int)=A1 at*
   generalize B32^(K+N)*c=A2 at*
   generalize(B32:Int)^(K+N)=A3 at*
   generalize B32^K*(g*vB B32 y)=A4 at*
   generalize B32^K*vB B32 (u.drop K)=A5 at*
   clear hy1 s2
   omega
  ·exact h
 have d0:0≤rd z ((K+N:Nat):Int)-c:=by clear hv hy1 s2 s3 l1 s5;omega
 have d1:rd z ((K+N:Nat):Int)-c<B32:=by clear hv hy1 s2 s3 l1 s5;omega
 have hval:vB B32 (z.set (K+N) (rd z ((K+N:Nat):Int)-c))+B32^K*(g*vB B32 y)=vB B32 u:=by
  rw [vB_set _ _ _ _ hj,show rd z ((K+N:Nat):Int)-c-rd z ((K+N:Nat):Int)= -c by clear hv hy1 s2 s3 l1 s5;omega,Int.mul_neg]
  generalize B32^(K+N)*c=A2 at*
  generalize B32^K*(g*vB B32 y)=A4 at*
  clear hy1 s2 s3 l1 s5
  omega
 refine⟨d0,d1,by rw [List.length_set];exact hl,Dig_set hd _ d0 d1,?_,hval⟩
 have s6:=vB_split B32 (z.set (K+N) (rd z ((K+N:Nat):Int)-c)) K (by rw [List.length_set];clear hv hy1 s2 s3 l1 s5 hval;omega)
 rw [take_set_far (by clear hv hy1 s2 s3 l1 s5 hval;omega),ht]at s6
 have hne:(B32:Int)^K≠0:=Int.ne_of_gt (Int.pow_pos hB)
 apply Int.eq_of_mul_eq_mul_left hne
 rw [Int.mul_sub]
 generalize B32^K*vB B32 ((z.set (K+N) (rd z ((K+N:Nat):Int)-c)).drop K)=A1 at*
 generalize B32^K*vB B32 (u.drop K)=A2 at*
 generalize B32^K*(g*vB B32 y)=A4 at*
 clear hv hy1 s2 s3 l1
 omega
theorem rdiv_l2 {u y q:List Int} {g:Int} {K N:Nat} (hN:y.length=N) (hKN:K+N<u.length) (lu:u.length≤1099511627776) (hu:Dig B32 u) (hy:Dig B32 y) (g0:0≤g) (g1:g<B32) (hg:g*vB B32 y≤vB B32 (u.drop K)) (hR:vB B32 (u.drop K)<vB B32 y*B32) {r:ByteArray×ByteArray}
  (next:∀z':List Int,z'.length=u.length→Dig B32 z'→vB B32 (z'.drop K)=vB B32 (u.drop K)-g*vB B32 y→vB B32 z'+B32^K*(g*vB B32 y)=vB B32 u→Ev (fun k=>galoisref01_DivMod.l1 k y (N:Int) z' q (K:Int)) r):
  ∀(d i:Nat) (z:List Int) (c:Int),i+d=N→RSm u y z g K i c→Ev (fun k=>galoisref01_DivMod.l2 k y (N:Int) z q (K:Int) g c (i:Int)) r:=by
 intro d
 induction d with
 |zero=>
  intro i z c hi h
  have hi:i=N:=by omega
  subst hi
  have hl:=h.1
  have c1:((K+i:Nat):Int)<(z.length:Int):=by omega
  obtain⟨d0,d1,r1,r2,r3,r4⟩:=rsm_end hN hKN hu hy h hg hR
  have d1':rd z ((K+i:Nat):Int)-c<4294967296:=d1
  have e1:wrap64 ((K:Int)+(i:Int))=((K+i:Nat):Int):=by clear r3 r4 hg hR;rw [w64 (by omega) (by omega)];omega
  have e2:IntKind.u64.wrap (rd z ((K+i:Nat):Int)-c)=rd z ((K+i:Nat):Int)-c:=by clear r3 r4 hg hR e1;exact u64 (by omega) (by omega)
  refine Ev.step (fun k=>?_) (next _ r1 r2 r3 r4)
  simp only [galoisref01_DivMod.l2,e1,e2]
  rw [if_neg (Int.lt_irrefl _),if_pos (Int.natCast_nonneg _),if_pos c1,Int.toNat_natCast]
 |succ d ih=>
  intro i z c hi h
  have hl:=h.1
  have hi':i<N:=by omega
  have hj:K+i<z.length:=by omega
  have c0:i+1+d=N:=by omega
  have c1:(i:Int)<(N:Int):=Int.ofNat_lt.2 hi'
  have c2:(i:Int)<(y.length:Int):=by rw [hN];exact c1
  have c3:((K+i:Nat):Int)<(z.length:Int):=Int.ofNat_lt.2 hj
  obtain⟨z0,z1⟩:=Dig_rd h.2.1 (K+i) hj
  obtain⟨y0,y1⟩:=Dig_rd hy i (by omega)
  have hc:=h.2.2.1
  obtain⟨p1,p2,p3,p4,p5,p6,p7⟩:=rsm_digit z0 z1 y0 y1 g0 g1 hc.1 hc.2
  have z1':rd z ((K+i:Nat):Int)<4294967296:=z1
  have p4':(rd y (i:Int)*g+c)/B32<4294967296:=p4
  have p6':(rd y (i:Int)*g+c)%B32<4294967296:=p6
  have e1:wrap64 ((K:Int)+(i:Int))=((K+i:Nat):Int):=by clear p1 p2 p3 p4 p4' p5 p6 p6' p7 hg hR;rw [w64 (by omega) (by omega)];omega
  have e2:wrap64 ((i:Int)+1)=((i+1:Nat):Int):=by clear p1 p2 p3 p4 p4' p5 p6 p6' p7 hg hR e1;rw [w64 (by omega) (by omega)];omega
  by_cases hb:rd z ((K+i:Nat):Int)<(rd y (i:Int)*g+c)%B32
  ·have p8:=p7 hb
   have hs:=rsm_step (d:=rd z ((K+i:Nat):Int)+4294967296-(rd y (i:Int)*g+c)%B32) (e:=1) hj h (by clear p1 p2 p3 p4 p4' p5 p7 hg hR e1 e2;omega) (by show _<(4294967296:Int);clear p1 p2 p3 p4 p4' p5 p7 hg hR e1 e2;omega) (by clear p1 p2 p4 p4' p5 p7 hg hR e1 e2 hb;omega) p8 (by show _=rd z ((K+i:Nat):Int)-(rd y (i:Int)*g+c)%B32+4294967296*1;clear p1 p2 p3 p4 p4' p5 p7 hg hR e1 e2;omega)
   have e3:IntKind.u64.wrap (rd z ((K+i:Nat):Int)+4294967296)=rd z ((K+i:Nat):Int)+4294967296:=by clear p1 p2 p3 p4 p4' p5 p7 hg hR e1 e2;exact u64 (by omega) (by omega)
   have e4:IntKind.u64.wrap (rd z ((K+i:Nat):Int)+4294967296-(rd y (i:Int)*g+c)%B32)=rd z ((K+i:Nat):Int)+4294967296-(rd y (i:Int)*g+c)%B32:=by clear p1 p2 p3 p4 p4' p7 hg hR e1 e2 e3;exact u64 (by omega) (by omega)
   have e5:IntKind.u64.wrap ((rd y (i:Int)*g+c)/4294967296+1)=(rd y (i:Int)*g+c)/B32+1:=by
    clear p1 p2 p7 hg hR e1 e2 e3 e4
    exact u64 (Int.add_nonneg p3 (by decide)) (Int.lt_trans p8 (by decide))
   have r1:rd (z.set (K+i) (rd z ((K+i:Nat):Int)+4294967296)) ((K+i:Nat):Int)=rd z ((K+i:Nat):Int)+4294967296:=rd_set_self _ _ _ hj
   refine Ev.step (fun k=>?_) (ih (i+1) _ _ c0 hs)
   simp only [galoisref01_DivMod.l2,e1,e2,p1,p2,e3,e5,Int.toNat_natCast,Option.bind_some]
   rw [if_pos c1,if_pos (Int.natCast_nonneg _),if_pos c2,if_pos (Int.natCast_nonneg _),if_pos c3,if_pos hb,r1,e4,List.set_set]
  ·have hs:=rsm_step (d:=rd z ((K+i:Nat):Int)-(rd y (i:Int)*g+c)%B32) (e:=0) hj h (by clear p1 p2 p3 p4 p4' p7 hg hR e1 e2;omega) (by show _<(4294967296:Int);clear p1 p2 p3 p4 p4' p7 hg hR e1 e2;omega) (by rw [Int.add_zero];exact p3) (by rw [Int.add_zero];exact p4) (by rw [Int.mul_zero,Int.add_zero])
   have e4:IntKind.u64.wrap (rd z ((K+i:Nat):Int)-(rd y (i:Int)*g+c)%B32)=rd z ((K+i:Nat):Int)-(rd y (i:Int)*g+c)%B32:=by clear p1 p2 p3 p4 p4' p7 hg hR e1 e2;exact u64 (by omega) (by omega)
   rw [Int.add_zero]at hs
   refine Ev.step (fun k=>?_) (ih (i+1) _ _ c0 hs)
   simp only [galoisref01_DivMod.l2,e1,e2,p1,p2,Int.toNat_natCast]
   rw [if_pos c1,if_pos (Int.natCast_nonneg _),if_pos c2,if_pos (Int.natCast_nonneg _),if_pos c3,if_neg hb,e4]
theorem d32_pos {n:Nat} (h:0<n):0<(d32 n).length:=by
 rcases Nat.eq_zero_or_pos (d32 n).length with h1|h1
 ·exfalso
  have:=d32_val n
  rw [List.eq_nil_of_length_eq_zero h1]at this
  simp [vB]at this
  omega
 ·exact h1
theorem mx_or (a b:Int):(mx a b=a∧b≤a)∨(mx a b=b∧a≤b):=by
 unfold mx
 split
 ·right;exact⟨rfl,by omega⟩
 ·left;exact⟨rfl,by omega⟩
theorem rguess {u:List Int} {n K N:Nat} {R T top:Int} (hn:0<n) (hN:(d32 n).length=N+1) (hKN:K+(N+1)<u.length) (hu:Dig B32 u) (hR:vB B32 (u.drop K)=R) (hge:(n:Int)≤R) (hlt:R<n*B32)
  (hT:T=rd u ((K+(N+1):Nat):Int)*4294967296+rd u ((K+N:Nat):Int)) (htop:top=rd (d32 n) (N:Int)):
  (0≤T∧T<18446744073709551616)∧(0≤top∧top<4294967296)∧1≤mx 1 (T/(top+1))∧mx 1 (T/(top+1))<B32∧mx 1 (T/(top+1))*n≤R:=by
 have hB:(0:Int)<B32:=by decide
 obtain⟨t0,t1⟩:=Dig_rd (d32_dig n) N (by omega)
 obtain⟨u0,u1⟩:=Dig_rd hu (K+(N+1)) hKN
 obtain⟨v0,v1⟩:=Dig_rd hu (K+N) (by omega)
 rw [←htop]at t0 t1
 have t1':top<4294967296:=t1
 have u1':rd u ((K+(N+1):Nat):Int)<4294967296:=u1
 have v1':rd u ((K+N:Nat):Int)<4294967296:=v1
 have T0:0≤T:=by omega
 have T1:T<18446744073709551616:=by omega
 have key:T/(top+1)*n≤R:=by
  have hg0:0≤T/(top+1):=Int.ediv_nonneg T0 (by omega)
  have hg1:T/(top+1)*(top+1)≤T:=Int.ediv_mul_le T (by omega)
  have s1:=vB_split B32 (u.drop K) N (by rw [List.length_drop];omega)
  rw [List.drop_drop,hR]at s1
  have p1:=vB_nonneg (Int.le_of_lt hB) (Dig_take (Dig_drop hu K) N)
  have s2:=drop_succ B32 u (K+N) (by omega)
  have s3:=drop_succ B32 u (K+(N+1)) hKN
  rw [show K+N+1=K+(N+1)by omega,s3]at s2
  have p2:=vB_nonneg (Int.le_of_lt hB) (Dig_drop hu (K+(N+1)+1))
  have hle:T≤vB B32 (u.drop (K+N)):=by
   rw [s2,hT]
   show _≤rd u ((K+N:Nat):Int)+4294967296*(rd u ((K+(N+1):Nat):Int)+4294967296*vB B32 (u.drop (K+(N+1)+1)))
   clear s1 s2 s3 hg1 hlt hge
   omega
  have hP:(0:Int)≤B32^N:=Int.le_of_lt (Int.pow_pos hB)
  have h1:=Int.mul_le_mul_of_nonneg_left hle hP
  have hn1:=vB_all B32 (d32 n) (N+1) (by omega)
  rw [take_succ,d32_val,←htop]at hn1
  have hn2:=vB_lt hB (Dig_take (d32_dig n) N)
  rw [List.length_take,Nat.min_eq_left (by omega)]at hn2
  have hn3:(n:Int)≤B32^N*(top+1):=by
   rw [Int.mul_add,Int.mul_one]
   generalize B32^N*top=A at*
   generalize(B32:Int)^N=P at*
   clear s1 s2 s3 hg1 hlt hge hle h1
   omega
  have h2:=Int.mul_le_mul_of_nonneg_left hn3 hg0
  have h3:=Int.mul_le_mul_of_nonneg_left hg1 hP
  have e:T/(top+1)*(B32^N*(top+1))=B32^N*(T/(top+1)*(top+1)):=Int.mul_left_comm _ _ _
  rw [e]at h2
  generalize B32^N*(T/(top+1)*(top+1))=A at*
  generalize B32^N*T=A2 at*
  generalize B32^N*vB B32 (u.drop (K+N))=A3 at*
  generalize T/(top+1)*(n:Int)=A4 at*
  clear s2 s3 hg1 hlt hge hle hn1 hn2 hn3 e
  omega
 have hall:1≤mx 1 (T/(top+1))∧mx 1 (T/(top+1))*n≤R:=by
  rcases mx_or 1 (T/(top+1))with⟨h,h'⟩| ⟨h,h'⟩
  ·rw [h,Int.one_mul]
   exact⟨Int.le_refl _,hge⟩
  ·rw [h]
   exact⟨h',key⟩
 refine⟨⟨T0,T1⟩,⟨t0,t1'⟩,hall.1,?_,hall.2⟩
 rcases Int.lt_or_le (mx 1 (T/(top+1))) B32 with h|h
 ·exact h
 ·exfalso
  have h1:=Int.mul_le_mul_of_nonneg_right h (show(0:Int)≤n by omega)
  rw [Int.mul_comm B32]at h1
  have:=hall.2
  clear hall key
  generalize mx 1 (T/(top+1))*(n:Int)=A at*
  generalize(n:Int)*B32=A2 at*
  omega
theorem rdiv_l1 {n N K Lu Lq:Nat} {V:Int} (hn:0<n) (hN:(d32 n).length=N+1) (hKN:K+(N+1)<Lu) (hKq:K<Lq) (lu:Lu≤1099511627776) {r:ByteArray×ByteArray}
  (next:∀u q:List Int,u.length=Lu→q.length=Lq→Dig B32 u→Dig B32 q→q.take K=List.replicate K 0→vB B32 u+n*vB B32 q=V→vB B32 (u.drop K)<n→Ev (fun k=>galoisref01_DivMod.l0 k (d32 n) ((N+1:Nat):Int) u q ((K:Int)-1)) r):
  ∀(R:Nat) (u q:List Int),u.length=Lu→q.length=Lq→Dig B32 u→Dig B32 q→q.take K=List.replicate K 0→vB B32 u+n*vB B32 q=V→vB B32 (u.drop K)=R→rd q (K:Int)*n+R<n*B32→Ev (fun k=>galoisref01_DivMod.l1 k (d32 n) ((N+1:Nat):Int) u q (K:Int)) r:=by
 intro R
 induction R using Nat.strongRecOn with
 |_ R ih=>
  intro u q hlu hlq hu hq hz hV hR hb
  have hbe:=below_ev (n:=n) (Dig_drop hu K) (by rw [List.length_drop];omega) hR (by omega)
  have c0:(K:Int)≤(u.length:Int):=by omega
  refine Ev.step (fun k=>galoisref01_DivMod.l1.eq_2 ..) ?_
  refine Ev.congr (fun k=>if_pos (Int.natCast_nonneg K)) (Ev.congr (fun k=>if_pos c0) ?_)
  refine Ev.bind hbe ?_
  have e0:wrap64 ((K:Int)-1)=(K:Int)-1:=by clear hV hb hR;exact w64 (by omega) (by omega)
  have c1:((K+(N+1):Nat):Int)<(u.length:Int):=by clear hV hb hR e0;omega
  have c2:((K+N:Nat):Int)<(u.length:Int):=by clear hV hb hR e0;omega
  have c3:(N:Int)<((d32 n).length:Int):=by clear hV hb hR e0;omega
  have c5:(K:Int)<(q.length:Int):=by clear hV hb hR e0;omega
  have cG:∀G:Int,rd q (K:Int)+G-rd q (K:Int)=G:=fun G=>by clear hV hb hR e0;omega
  by_cases hlt:R<n
  ·refine Ev.congr (fun k=>if_pos (decide_eq_true hlt)) ?_
   rw [e0]
   exact next u q hlu hlq hu hq hz hV (by rw [hR];exact Int.ofNat_lt.2 hlt)
  ·obtain⟨q0,q1⟩:=Dig_rd hq K (by omega)
   have hq0n:0≤rd q (K:Int)*n:=Int.mul_nonneg q0 (by omega)
   have hRB:(R:Int)<n*B32:=by
    generalize rd q (K:Int)*(n:Int)=A at*
    generalize(n:Int)*B32=A2 at*
    clear hV
    omega
   obtain⟨⟨T0,T1⟩,⟨p0,p1⟩,g1,gB,gR⟩:=rguess hn hN (by omega) hu hR (by omega) hRB rfl rfl
   obtain⟨T,hT⟩:∃T,T=rd u ((K+(N+1):Nat):Int)*4294967296+rd u ((K+N:Nat):Int):=⟨_,rfl⟩
   rw [←hT]at T0 T1 g1 gB gR
   obtain⟨top,htop⟩:∃top,top=rd (d32 n) (N:Int):=⟨_,rfl⟩
   rw [←htop]at p0 p1 g1 gB gR
   obtain⟨u0,u1⟩:=Dig_rd hu (K+(N+1)) (by omega)
   obtain⟨v0,v1⟩:=Dig_rd hu (K+N) (by omega)
   have u1':rd u ((K+(N+1):Nat):Int)<4294967296:=u1
   have q1':rd q (K:Int)<4294967296:=q1
   have e1:wrap64 ((K:Int)+((N+1:Nat):Int))=((K+(N+1):Nat):Int):=by clear hV hb hR hT htop e0;rw [w64 (by omega) (by omega)];omega
   have e2:wrap64 (((K+(N+1):Nat):Int)-1)=((K+N:Nat):Int):=by clear hV hb hR hT htop e0 e1;rw [w64 (by omega) (by omega)];omega
   have e3:wrap64 (((N+1:Nat):Int)-1)=(N:Int):=by clear hV hb hR hT htop e0 e1 e2;rw [w64 (by omega) (by omega)];omega
   have e4:IntKind.u64.wrap (top+1)=top+1:=by clear hV hb hR hT htop e0 e1 e2 e3;exact u64 (by omega) (by omega)
   have e5:IntKind.u64.wrap (rd u ((K+(N+1):Nat):Int)*4294967296)=rd u ((K+(N+1):Nat):Int)*4294967296:=by clear hV hb hR hT htop e0 e1 e2 e3 e4;exact u64 (by omega) (by omega)
   have e6:IntKind.u64.wrap T=T:=u64 T0 T1
   have d0:0≤T/(top+1):=Int.ediv_nonneg T0 (by clear hV hb hR hT htop e0 e1 e2 e3 e4 e5 e6;omega)
   have d1:T/(top+1)≤T:=Int.ediv_le_self _ T0
   have e7:IntKind.u64.wrap (Int.tdiv T (top+1))=T/(top+1):=by
    rw [Int.tdiv_eq_ediv_of_nonneg T0]
    exact u64 d0 (Int.lt_of_le_of_lt d1 T1)
   obtain⟨G,hG⟩:=Int.eq_ofNat_of_zero_le (show 0≤mx 1 (T/(top+1))from Int.le_trans (by decide) g1)
   rw [hG]at g1 gB gR
   have gB':(G:Int)<4294967296:=gB
   have gR':G*n≤R:=by
    apply Int.ofNat_le.1
    rw [Int.natCast_mul]
    exact gR
   have hGn:n≤G*n:=Nat.le_mul_of_pos_left _ (by clear hV hb hR hT htop e0 e1 e2 e3 e4 e5 e6 e7 hG gR gR';omega)
   have hnew:(rd q (K:Int)+G)*n+((R-G*n:Nat):Int)<n*B32:=by
    rw [Int.add_mul,Int.ofNat_sub gR',Int.natCast_mul]
    generalize rd q (K:Int)*(n:Int)=A at*
    generalize(G:Int)*(n:Int)=A3 at*
    generalize(n:Int)*B32=A2 at*
    clear hV e0 e1 e2 e3 e4 e5 e6 e7 hT htop hG
    omega
   have hdig:rd q (K:Int)+G<B32:=by
    rcases Int.lt_or_le (rd q (K:Int)+G) B32 with h|h
    ·exact h
    ·exfalso
     have h1:=Int.mul_le_mul_of_nonneg_right h (show(0:Int)≤n by omega)
     rw [Int.mul_comm B32]at h1
     generalize(rd q (K:Int)+G)*(n:Int)=A at*
     generalize(n:Int)*B32=A2 at*
     generalize R-G*n=A3 at*
     clear hV e0 e1 e2 e3 e4 e5 e6 e7 hT htop hG hb
     omega
   have hdig':rd q (K:Int)+G<4294967296:=hdig
   have e8:IntKind.u64.wrap (rd q (K:Int)+(G:Int))=rd q (K:Int)+G:=by clear hV hb hR hT htop e0 e1 e2 e3 e4 e5 e6 e7 hG;exact u64 (by omega) (by omega)
   have hyv:=d32_val n
   have k1:K+(N+1)<u.length:=by rw [hlu];exact hKN
   have k2:u.length≤1099511627776:=by rw [hlu];exact lu
   have hl2:=rdiv_l2 (u:=u) (y:=d32 n) (q:=q.set K (rd q (K:Int)+G)) (g:=G) (K:=K) (N:=N+1) hN k1 k2 hu (d32_dig n) (Int.natCast_nonneg G) gB (by rw [hyv,hR];exact gR) (by rw [hyv,hR];exact hRB) (r:=r) (by
    intro z hlz hdz hvz hvz2
    rw [hyv,hR]at hvz
    rw [hyv]at hvz2
    refine ih (R-G*n) (by clear hV hb hR hT htop e0 e1 e2 e3 e4 e5 e6 e7 e8 hG hvz hvz2 hnew;omega) z _ (hlz.trans hlu) (by rw [List.length_set];exact hlq) hdz (Dig_set hq K (Int.add_nonneg q0 (Int.natCast_nonneg G)) hdig) (by rw [take_set_far (Nat.le_refl K)];exact hz) ?_ ?_ ?_
    ·rw [vB_set _ _ _ _ (by rw [hlq];exact hKq),cG,Int.mul_add,Int.mul_left_comm (n:Int),Int.mul_comm (n:Int) (G:Int)]
     generalize B32^K*((G:Int)*(n:Int))=A at*
     generalize(n:Int)*vB B32 q=A2 at*
     clear hb hR hT htop e0 e1 e2 e3 e4 e5 e6 e7 e8 hG hnew
     omega
    ·rw [hvz,Int.ofNat_sub gR',Int.natCast_mul]
    ·rw [rd_set_self _ _ _ (by rw [hlq];exact hKq)]
     exact hnew) (N+1) 0 u 0 (Nat.zero_add _) ⟨rfl,hu,⟨by decide,by decide⟩,rfl,rfl,by simp [vB]⟩
   refine Ev.congr (fun k=>?_) hl2
   have c4:¬top+1=0:=Int.ne_of_gt (Int.lt_add_one_of_le p0)
   have c6:¬decide (R<n)=true:=by rw [decide_eq_true_eq];exact hlt
   rw [if_neg c6]
   simp only [e1,e2,e3,←htop,e4,e5,←hT,e6,e7,hG,e8,Int.toNat_natCast]
   rw [if_pos (Int.natCast_nonneg _),if_pos c1,if_pos (Int.natCast_nonneg _),if_pos c2,if_pos (Int.natCast_nonneg _),if_pos c3,if_neg c4,if_pos c5]
   rfl
theorem rdiv_l0 {n N m Lu Lq:Nat} (hn:0<n) (hN:(d32 n).length=N+1) (lu:Lu≤1099511627776) (lq:Lq≤1099511627776):∀(K:Nat) (u q:List Int),K≤Lq→(K=0∨K+(N+1)≤Lu)→u.length=Lu→q.length=Lq→Dig B32 u→Dig B32 q→q.take K=List.replicate K 0→vB B32 u+n*vB B32 q=m→vB B32 (u.drop K)<n→
  Ev (fun k=>galoisref01_DivMod.l0 k (d32 n) ((N+1:Nat):Int) u q ((K:Int)-1)) (nat (m/n),nat (m%n)):=by
 intro K
 induction K with
 |zero=>
  intro u q _ _ hlu hlq hu hq _ hV hR
  rw [List.drop_zero]at hR
  obtain⟨U,hU⟩:=Int.eq_ofNat_of_zero_le (vB_nonneg (show(0:Int)≤B32 by decide) hu)
  obtain⟨Q,hQ⟩:=Int.eq_ofNat_of_zero_le (vB_nonneg (show(0:Int)≤B32 by decide) hq)
  rw [hU]at hR hV
  rw [hQ]at hV
  have hm:m=U+n*Q:=by
   apply Int.ofNat_inj.1
   rw [Int.natCast_add,Int.natCast_mul]
   exact hV.symm
  have hUn:U<n:=Int.ofNat_lt.1 hR
  have pu:=rpack_ev hu (by omega)
  have pq:=rpack_ev hq (by omega)
  rw [hU,Int.toNat_natCast]at pu
  rw [hQ,Int.toNat_natCast]at pq
  have r1:m/n=Q:=by rw [hm,Nat.add_mul_div_left _ _ hn,Nat.div_eq_of_lt hUn,Nat.zero_add]
  have r2:m%n=U:=by rw [hm,Nat.add_mul_mod_self_left,Nat.mod_eq_of_lt hUn]
  rw [r1,r2]
  refine Ev.step (fun k=>galoisref01_DivMod.l0.eq_2 ..) ?_
  refine Ev.congr (fun k=>if_neg (by decide)) ?_
  exact Ev.bind pq (Ev.bind pu (Ev.now _))
 |succ K ih=>
  intro u q hK hK2 hlu hlq hu hq hz hV hR
  have hKN:K+(N+1)<Lu:=by omega
  have e0:((K+1:Nat):Int)-1=(K:Int):=by omega
  rw [e0]
  obtain⟨R,hR'⟩:=Int.eq_ofNat_of_zero_le (vB_nonneg (show(0:Int)≤B32 by decide) (Dig_drop hu K))
  have s:=drop_succ B32 u K (by omega)
  obtain⟨u0,u1⟩:=Dig_rd hu K (by omega)
  have hq0:rd q (K:Int)=0:=by
   rw [←rd_take q (K+1) K (by omega),hz,rd_replicate]
  have hz':q.take K=List.replicate K 0:=by
   have h:=congrArg (List.take K) hz
   rwa [List.take_take,Nat.min_eq_left (by omega),List.take_replicate,Nat.min_eq_left (by omega)]at h
  refine Ev.step (f:=fun k=>galoisref01_DivMod.l1 k (d32 n) ((N+1:Nat):Int) u q (K:Int)) (fun k=>(galoisref01_DivMod.l0.eq_2 ..).trans (if_pos (Int.natCast_nonneg K))) ?_
  refine rdiv_l1 (V:=m) hn hN hKN hK lu (fun u' q' h1 h2 h3 h4 h5 h6 h7=>ih u' q' (by omega) (Or.inr (by omega)) h1 h2 h3 h4 h5 h6 h7) R u q hlu hlq hu hq hz' hV hR' ?_
  rw [hq0,Int.zero_mul,←hR',s,Int.mul_comm (n:Int)]
  have h1:=Int.mul_le_mul_of_nonneg_left (show vB B32 (u.drop (K+1))+1≤n by omega) (show(0:Int)≤B32 by decide)
  rw [Int.mul_add,Int.mul_one]at h1
  generalize B32*vB B32 (u.drop (K+1))=A at*
  generalize B32*(n:Int)=A2 at*
  clear hV s hR hR'
  omega
theorem rDivMod_ev {m n:Nat} (hm:(nat m).size≤1099511627776) (hn:(nat n).size≤1099511627776):Ev (fun k=>galoisref01_DivMod.f k (nat m) (nat n)) (if n=0 then(⟨#[]⟩,⟨#[]⟩)else(nat (m/n),nat (m%n))):=by
 by_cases h0:n=0
 ·rw [if_pos h0]
  exact Ev.congr (fun k=>if_pos (nat_empty.2 h0)) (Ev.now _)
 ·rw [if_neg h0]
  refine Ev.congr (fun k=>if_neg (fun h=>h0 (nat_empty.1 h))) ?_
  refine Ev.bind (limbs_nat hm) (Ev.bind (limbs_nat hn) ?_)
  have lm:=limbs_len m
  have ln:=limbs_len n
  have hpos:=d32_pos (Nat.pos_of_ne_zero h0)
  obtain⟨N,hN⟩:∃N,(d32 n).length=N+1:=⟨(d32 n).length-1,by omega⟩
  have e1:mx 0 (wrap64 ((wrap64 (((d32 m).length:Int)-((d32 n).length:Int)))+1))=(((d32 m).length+1-(N+1):Nat):Int):=by
   rw [w64 (x:=((d32 m).length:Int)-((d32 n).length:Int)) (by omega) (by omega),w64 (by omega) (by omega)]
   rcases mx_or 0 (((d32 m).length:Int)-((d32 n).length:Int)+1)with⟨h,h'⟩| ⟨h,h'⟩<;>rw [h]<;>omega
  refine Ev.congr (fun k=>if_pos (show(d32 m).length<17592186044416 by omega)) ?_
  rw [e1]
  obtain⟨L,hL⟩:∃L,(d32 m).length+1-(N+1)=L:=⟨_,rfl⟩
  rw [hL]
  clear e1
  refine Ev.congr (fun k=>if_pos (Int.natCast_nonneg _)) (Ev.congr (fun k=>if_pos (show((L:Nat):Int).toNat≤35184372088832 by rw [Int.toNat_natCast];omega)) ?_)
  refine ev_some rfl ?_
  rw [Int.toNat_natCast,List.length_replicate,hN,w64 (by omega) (by omega)]
  refine rdiv_l0 (Lu:=(d32 m).length+1) (Lq:=L) (Nat.pos_of_ne_zero h0) hN (by omega) (by omega) L _ _ (Nat.le_refl _) (by omega) (by simp) (by simp) (Dig_append (d32_dig m) (Dig_cons.2 ⟨⟨by decide,by decide⟩,Dig_nil _⟩)) (Dig_replicate (by decide) L) (by simp) ?_ ?_
  ·rw [vB_append,vB_replicate,d32_val]
   simp [vB]
  ·have hx:vB B32 ((d32 m++[0]).drop L)=vB B32 ((d32 m).drop L):=by
    rcases Nat.lt_or_ge (d32 m).length L with h|h
    ·omega
    ·rw [List.drop_append_of_le_length h,vB_append]
     simp [vB]
   rw [hx]
   have t:=trim_le (by decide) (d32_dig n) (d32_trim n) hpos
   rw [d32_val]at t
   by_cases hl0:L=0
   ·rw [hl0,List.drop_zero,d32_val]
    have:=trim_len (by decide) (d32_dig m) (d32_dig n) (d32_trim n) (by omega)
    rwa [d32_val,d32_val]at this
   ·have h1:=vB_lt (show(0:Int)<B32 by decide) (Dig_drop (d32_dig m) L)
    rw [List.length_drop]at h1
    have e:(d32 m).length-L=(d32 n).length-1:=by omega
    rw [e]at h1
    exact Int.lt_of_lt_of_le h1 t
theorem rDivMod_ok {m n:Nat} (hm:(nat m).size≤1099511627776) (hn:(nat n).size≤1099511627776) (h0:n≠0):Ev (fun k=>galoisref01_DivMod.f k (nat m) (nat n)) (nat (m/n),nat (m%n)):=by
 have:=rDivMod_ev hm hn
 rwa [if_neg h0]at this
theorem rGcd_l0:∀(n m:Nat),(nat m).size≤1099511627776→(nat n).size≤1099511627776→Ev (fun k=>galoisref01_Gcd.l0 k (nat m) (nat n)) (nat (Nat.gcd m n)):=by
 intro n
 induction n using Nat.strongRecOn with
 |_ n ih=>
  intro m hm hn
  refine Ev.step (fun k=>galoisref01_Gcd.l0.eq_2 ..) ?_
  by_cases h:n=0
  ·subst h
   rw [Nat.gcd_zero_right]
   exact Ev.congr (fun k=>if_pos (nat_empty.2 rfl)) (Ev.now _)
  ·have hlt:=Nat.mod_lt m (Nat.pos_of_ne_zero h)
   have hs:=size_mono (Nat.le_of_lt hlt)
   have e:Nat.gcd m n=Nat.gcd n (m%n):=by rw [Nat.gcd_comm m n,Nat.gcd_rec n m,Nat.gcd_comm]
   rw [e]
   exact Ev.congr (fun k=>if_neg (fun h'=>h (nat_empty.1 h'))) (Ev.bind (rDivMod_ok hm hn h) (ih (m%n) hlt n hn (by omega)))
theorem rGcd_ev {m n:Nat} (hm:(nat m).size≤1099511627776) (hn:(nat n).size≤1099511627776):Ev (fun k=>galoisref01_Gcd.f k (nat m) (nat n)) (nat (Nat.gcd m n)):=rGcd_l0 n m hm hn
def ng (x:Int):Bool:=decide (x<0)
def ab (x:Int):ByteArray:=nat x.natAbs
def sg (s:Bool) (n:Nat):Int:=if s then -(n:Int)else n
theorem sg_true (n:Nat):sg true n= -(n:Int):=rfl
theorem sg_false (n:Nat):sg false n=(n:Int):=rfl
end Go.Proofs.YtjllholdppjllaaN
