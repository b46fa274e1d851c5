/- Part of the proof of the statement FieldpolyShifts: lemmas on the model's steps, Lean functions that say what the program's functions compute, and proofs that the calls do just that. No hypothesis is added. -/
import Derived.Test.YtijohnkgomcdbaaGreatKFieldpolyShifts5
set_option linter.all false
set_option maxRecDepth 100000
namespace Go.Proofs.YtijohnkgomcdbaaGreatV
open Go Go.RowKit YtijohnkgomcdbaaGreat YtijohnkgomcdbaaGreatE YtijohnkgomcdbaaGreatW.PrintWords YtijohnkgomcdbaaGreatW.PrintLast YtijohnkgomcdbaaGreatW.PrintMore
noncomputable abbrev A4h (k:Nat) (x1:(List Int)) (x6:Int) (x7:Int) (x8:Int) (x20:(List Int)) (x21:Int) (x22:Int) (x27:(List Int)) (x28:Int) (x29:Int) (x5:(List Int)):Option Z1:=All.exact_mulWords.l1 k x1 x5 x6 x7 x8 x20 x21 x22 x27 x28 x29
theorem F0a (k:Nat) (x1:(List Int)) (x20:(List Int)) (x21:Int) (x22:Int) (x5:(List Int)):A0 (All.exact_mulWords.l0 (k+1) x1 x5 x20 x21 x22) (C5B (A4h k) (M7 k) x1 x20 x21 x22 x5):=by rw [All.exact_mulWords.l0];unfold C5B;(try simp only [A4N,A4h,M7,T3,N5,All.integer_zero.f,All.exact_stepAt.f,All.S24.f0,All.S24.f1,All.rd_T24,All.z24]);exact BR
theorem E0q (k:Nat) (x1:(List Int)) (x6:Int) (x7:Int) (x8:Int) (x20:(List Int)) (x21:Int) (x22:Int) (x27:(List Int)) (x28:Int) (x29:Int) (x5:(List Int)):A0 (All.exact_mulWords.l1 (k+1) x1 x5 x6 x7 x8 x20 x21 x22 x27 x28 x29) (C4w (A4N k) (A4h k) (T3 k) (N5 k) x1 x6 x7 x8 x20 x21 x22 x27 x28 x29 x5):=by rw [All.exact_mulWords.l1];unfold C4w;(try simp only [A4N,A4h,M7,T3,N5,All.integer_zero.f,All.exact_stepAt.f,All.S24.f0,All.S24.f1,All.rd_T24,All.z24]);exact BR
theorem E3e (k:Nat) (x0:(List Int)) (x1:(List Int)):A0 (A0z k x0 x1) (C6r (A4N k) x0 x1):=by
 show A0 (All.exact_mulWords.f k x0 x1) _
 unfold All.exact_mulWords.f;unfold C6r;(try simp only [A4N,A4h,M7,T3,N5,All.integer_zero.f,All.exact_stepAt.f,All.S24.f0,All.S24.f1,All.rd_T24,All.z24]);exact BR
theorem D0K (k:Nat):B5 Tryz.prog (C7U (A0z k)):=
 B9 C0 HM A5z (es:=fun k=>B8i (M7 k) (T3 k) (N5 k)) (fun k=>fc ⟨C0K k,fc ⟨D3a k,fc ⟨C1j k,fz⟩⟩⟩) Tryz.func224 2 (by kernel_rfl) (fun s=>rfl) (fun k=>B6l (A4N k) (A4h k)) (fc ⟨fun s=>rfl,fc ⟨fun s=>rfl,fz⟩⟩) (fun k s0=> .cons (by kernel_rfl) (by kernel_rfl) (fun s r h=>(E3G (A4N k) (A4h k) (M7 k) (T3 k) (N5 k) s0 s).trans (F0a k s.1.1 s.1.2.1 s.1.2.2.1 s.1.2.2.2.1 s.2.1 r h)) (.cons (by kernel_rfl) (by kernel_rfl) (fun s r h=>(D9D (A4N k) (A4h k) (M7 k) (T3 k) (N5 k) s0 s).trans (E0q k s.1.1 s.1.2.1 s.1.2.2.1 s.1.2.2.2.1 s.1.2.2.2.2.1 s.1.2.2.2.2.2.1 s.1.2.2.2.2.2.2.1 s.1.2.2.2.2.2.2.2.1 s.1.2.2.2.2.2.2.2.2.1 s.1.2.2.2.2.2.2.2.2.2.1 s.2.1 r h)) (.nil))) (F:=fun k s=>A0z k s.1.1 s.1.2.1) (fun k s r h=>(E6y (A4N k) (A4h k) (M7 k) (T3 k) (N5 k) s).trans (E3e k s.1.1 s.1.2.1 r h)) k
theorem E6Y (k:Nat) (x0:ByteArray) (x1:ByteArray):A0 (T5 k x0 x1) (C2i (I1 k) (A0z k) (K2 k) x0 x1):=by
 show A0 (All.exact_NatMul.f k x0 x1) _
 unfold All.exact_NatMul.f;unfold C2i;(try simp only [I1,A0z,K2,All.integer_zero.f,All.exact_stepAt.f,All.S24.f0,All.S24.f1,All.rd_T24,All.z24]);exact BR
theorem C6d (k:Nat):B5 Tryz.prog (C0H (T5 k)):=
 B9 C0 HM B7S (es:=fun k=>D6W (I1 k) (A0z k) (K2 k)) (fun k=>fc ⟨A8J k,fc ⟨D0K k,fc ⟨B0b k,fz⟩⟩⟩) Tryz.func186 0 (by kernel_rfl) (fun s=>rfl) (fun k=>[]) (fz) (fun k s0=> .nil) (F:=fun k s=>T5 k s.1.1 s.1.2.1) (fun k s r h=>(E2S (I1 k) (A0z k) (K2 k) s).trans (E6Y k s.1.1 s.1.2.1 r h)) k
theorem F0A (k:Nat) (x0:Bool) (x1:ByteArray):A0 (L3 k x0 x1) (C1x x0 x1):=by
 show A0 (All.exact_IntMake.f x0 x1) _
 unfold All.exact_IntMake.f;unfold C1x;(try simp only [All.integer_zero.f,All.exact_stepAt.f,All.S24.f0,All.S24.f1,All.rd_T24,All.z24]);exact BR
theorem B0K (k:Nat):B5 Tryz.prog (A7g (L3 k)):=
 B9 C0 HM B8T (es:=fun k=>[]) (fun k=>fz) Tryz.func192 0 (by kernel_rfl) (fun s=>rfl) (fun k=>[]) (fz) (fun k s0=> .nil) (F:=fun k s=>L3 k s.1.1 s.1.2.1) (fun k s r h=>(F3j s).trans (F0A k s.1.1 s.1.2.1 r h)) k
theorem E7u (k:Nat) (x0:TI) (x1:TI):A0 (A3D k x0 x1) (C5u (T5 k) (L3 k) x0 x1):=by
 show A0 (All.exact_IntMul.f k x0.1 x0.2 x1.1 x1.2) _
 unfold All.exact_IntMul.f;unfold C5u;(try simp only [T5,L3,All.integer_zero.f,All.exact_stepAt.f,All.S24.f0,All.S24.f1,All.rd_T24,All.z24]);exact BR
theorem D9c (k:Nat):B5 Tryz.prog (D4f (A3D k)):=
 B9 C0 HM B6Y (es:=fun k=>D4e (T5 k) (L3 k)) (fun k=>fc ⟨C6d k,fc ⟨B0K k,fz⟩⟩) Tryz.func184 0 (by kernel_rfl) (fun s=>rfl) (fun k=>[]) (fz) (fun k s0=> .nil) (F:=fun k s=>A3D k s.1.1 s.1.2.1) (fun k s r h=>(F0D (T5 k) (L3 k) s).trans (E7u k s.1.1 s.1.2.1 r h)) k
theorem D9v (k:Nat) (x0:ByteArray) (x1:ByteArray):A0 (A4X k x0 x1) (C8O (I1 k) (K2 k) (A0T k) x0 x1):=by
 show A0 (All.exact_NatDivMod.f k x0 x1) _
 unfold All.exact_NatDivMod.f;unfold C8O;(try simp only [I1,K2,A0T,All.integer_zero.f,All.exact_stepAt.f,All.S24.f0,All.S24.f1,All.rd_T24,All.z24]);exact BR
theorem E4V (k:Nat):B5 Tryz.prog (D5Z (A4X k)):=
 B9 C0 HM B8H (es:=fun k=>D7t (I1 k) (K2 k) (A0T k)) (fun k=>fc ⟨A8J k,fc ⟨B0b k,fc ⟨D0J k,fz⟩⟩⟩) Tryz.func222 0 (by kernel_rfl) (fun s=>rfl) (fun k=>[]) (fz) (fun k s0=> .nil) (F:=fun k s=>A4X k s.1.1 s.1.2.1) (fun k s r h=>(F6b (I1 k) (K2 k) (A0T k) s).trans (D9v k s.1.1 s.1.2.1 r h)) k
theorem F2f (k:Nat) (x0:TI) (x1:TI):A0 (f9 k x0 x1) (B3a (L3 k) (U4 k) (A4X k) x0 x1):=A0.refl _
theorem D1k (k:Nat):B5 Tryz.prog (C9t (f9 k)):=
 B9 C0 HM B7D (es:=fun k=>D6a (L3 k) (U4 k) (A4X k)) (fun k=>fc ⟨B0K k,fc ⟨D1M k,fc ⟨E4V k,fz⟩⟩⟩) Tryz.func185 0 (by kernel_rfl) (fun s=>rfl) (fun k=>[]) (fz) (fun k s0=> .nil) (F:=fun k s=>f9 k s.1.1 s.1.2.1) (fun k s r h=>(E7o (L3 k) (U4 k) (A4X k) s).trans (F2f k s.1.1 s.1.2.1 r h)) k
theorem E9b (k:Nat) (x0:TQ) (x1:TQ):A0 (F8 k x0 x1) (B2I (S5 k) (A3D k) (f9 k) (T5 k) x0 x1):=A0.refl _
theorem B3Z (k:Nat):B5 Tryz.prog (B0Y (F8 k)):=
 B9 C0 HM B5Q (es:=fun k=>D8M (S5 k) (A3D k) (f9 k) (T5 k)) (fun k=>fc ⟨C8U k,fc ⟨D9c k,fc ⟨D1k k,fc ⟨C6d k,fz⟩⟩⟩⟩) Tryz.func142 0 (by kernel_rfl) (fun s=>rfl) (fun k=>[]) (fz) (fun k s0=> .nil) (F:=fun k s=>F8 k s.1.1 s.1.2.1) (fun k s r h=>(F0s (S5 k) (A3D k) (f9 k) (T5 k) s).trans (E9b k s.1.1 s.1.2.1 r h)) k
noncomputable abbrev A7e (k:Nat) (x1:Int) (x5:(List Int)) (x6:(List Int)):Option A0q:=All.exact_NatPow.l0 k x1 x5 x6
theorem F5O (k:Nat) (x1:Int) (x5:(List Int)) (x6:(List Int)):A0 (All.exact_NatPow.l0 (k+1) x1 x5 x6) (C7c (A7e k) (I1 k) (A0z k) x1 x5 x6):=by rw [All.exact_NatPow.l0];unfold C7c;(try simp only [A7e,I1,A0z,K2,All.integer_zero.f,All.exact_stepAt.f,All.S24.f0,All.S24.f1,All.rd_T24,All.z24]);exact BR
theorem E9r (k:Nat) (x0:ByteArray) (x1:Int):A0 (A1x k x0 x1) (C2L (A7e k) (K2 k) x0 x1):=by
 show A0 (All.exact_NatPow.f k x0 x1) _
 unfold All.exact_NatPow.f;unfold C2L;(try simp only [A7e,I1,A0z,K2,All.integer_zero.f,All.exact_stepAt.f,All.S24.f0,All.S24.f1,All.rd_T24,All.z24]);exact BR
theorem D4l (k:Nat):B5 Tryz.prog (C7x (A1x k)):=
 B9 C0 HM B0A (es:=fun k=>C2J (I1 k) (A0z k) (K2 k)) (fun k=>fc ⟨A8J k,fc ⟨D0K k,fc ⟨B0b k,fz⟩⟩⟩) Tryz.func188 1 (by kernel_rfl) (fun s=>rfl) (fun k=>C9A (A7e k)) (fc ⟨fun s=>rfl,fz⟩) (fun k s0=> .cons (by kernel_rfl) (by kernel_rfl) (fun s r h=>(E8Q (A7e k) (I1 k) (A0z k) (K2 k) s0 s).trans (F5O k s.1.1 s.1.2.1 s.1.2.2.1 r h)) (.nil)) (F:=fun k s=>A1x k s.1.1 s.1.2.1) (fun k s r h=>(E9h (A7e k) (I1 k) (A0z k) (K2 k) s).trans (E9r k s.1.1 s.1.2.1 r h)) k
theorem E4K (k:Nat) (x0:TI) (x1:Int):A0 (A8j k x0 x1) (C4L (A1x k) (L3 k) x0 x1):=A0.refl _
theorem E3Q (k:Nat):B5 Tryz.prog (D5E (A8j k)):=
 B9 C0 HM B9j (es:=fun k=>D1s (A1x k) (L3 k)) (fun k=>fc ⟨D4l k,fc ⟨B0K k,fz⟩⟩) Tryz.func187 0 (by kernel_rfl) (fun s=>rfl) (fun k=>[]) (fz) (fun k s0=> .nil) (F:=fun k s=>A8j k s.1.1 s.1.2.1) (fun k s r h=>(F3z (A1x k) (L3 k) s).trans (E4K k s.1.1 s.1.2.1 r h)) k
theorem E0o (k:Nat) (x0:TQ) (x1:Int):A0 (A6b k x0 x1) (C1v (A8j k) (A1x k) x0 x1):=A0.refl _
theorem F5W (k:Nat):B5 Tryz.prog (D2L (A6b k)):=
 B9 C0 HM B6T (es:=fun k=>D2O (A8j k) (A1x k)) (fun k=>fc ⟨E3Q k,fc ⟨D4l k,fz⟩⟩) Tryz.func143 0 (by kernel_rfl) (fun s=>rfl) (fun k=>[]) (fz) (fun k s0=> .nil) (F:=fun k s=>A6b k s.1.1 s.1.2.1) (fun k s r h=>(E8O (A8j k) (A1x k) s).trans (E0o k s.1.1 s.1.2.1 r h)) k
theorem E0j (k:Nat) (x0:TI):A0 (A6R k x0) (C9F (L3 k) x0):=by
 show A0 (All.exact_IntNeg.f x0.1 x0.2) _
 unfold All.exact_IntNeg.f;unfold C9F;(try simp only [L3,All.integer_zero.f,All.exact_stepAt.f,All.S24.f0,All.S24.f1,All.rd_T24,All.z24]);exact BR
theorem D9m (k:Nat):B5 Tryz.prog (D5i (A6R k)):=
 B9 C0 HM B6G (es:=fun k=>D0q (L3 k)) (fun k=>fc ⟨B0K k,fz⟩) Tryz.func190 0 (by kernel_rfl) (fun s=>rfl) (fun k=>[]) (fz) (fun k s0=> .nil) (F:=fun k s=>A6R k s.1.1) (fun k s r h=>(E3U (L3 k) s).trans (E0j k s.1.1 r h)) k
theorem F2k (k:Nat) (x0:TQ):A0 (t4 k x0) (B7y (A6R k) x0):=A0.refl _
theorem D8S (k:Nat):B5 Tryz.prog (C7C (t4 k)):=
 B9 C0 HM B7C (es:=fun k=>D1q (A6R k)) (fun k=>fc ⟨D9m k,fz⟩) Tryz.func145 0 (by kernel_rfl) (fun s=>rfl) (fun k=>[]) (fz) (fun k s0=> .nil) (F:=fun k s=>t4 k s.1.1) (fun k s r h=>(E8t (A6R k) s).trans (F2k k s.1.1 r h)) k
noncomputable abbrev A7E (k:Nat) (x8:Int) (x27:Int) (x28:Int) (x5:(List Int)) (x6:(List Int)) (x7:(List Int)):Option A2c:=All.exact_NatAdd.l0 k x5 x6 x7 x8 x27 x28
theorem E8e (k:Nat) (x8:Int) (x27:Int) (x28:Int) (x5:(List Int)) (x6:(List Int)) (x7:(List Int)):A0 (All.exact_NatAdd.l0 (k+1) x5 x6 x7 x8 x27 x28) (C2l (A7E k) (I1 k) (N5 k) x8 x27 x28 x5 x6 x7):=by
 rw [All.exact_NatAdd.l0]
 unfold C2l
 (try simp only [A7E,I1,K2,N5,All.integer_zero.f,All.exact_stepAt.f,All.S24.f0,All.S24.f1,All.rd_T24,All.z24])
 (try simp only [F5,List.take_append_drop,List.drop_length,List.append_nil,Int.zero_sub,Int.toNat_natCast,Int.reduceToNat,Int.zero_add,List.take_zero,List.nil_append,List.append_assoc,List.length_set,X0,List.take_left,I3,bne,I0,decide_not,I4,if_true,if_false,Bool.false_eq_true,o4,v5,List.drop_zero,List.take_length,I2,G0,m7,C5,ite_not,Bool.and_eq_true,Bool.or_eq_true,Bool.not_eq_true',H7,Bool.not_eq_false',beq_iff_eq,decide_eq_true_eq,I5,H5,H6,ne_eq,H9,List.toList_toArray])
 repeat' first
 | (with_reducible refine A0.trans ((All.exact_NatAdd.mono_l k).1 _ _) ?_;rw [All.exact_NatAdd.j0];(try simp only [F5,if_true,if_false,decide_eq_true_eq,Bool.false_eq_true,decide_not,ite_not,bne,I0,beq_iff_eq,Bool.not_eq_true',H7,H9,List.toList_toArray,H5,H6,Bool.and_eq_true,Bool.or_eq_true,I5,I4,I2,All.integer_zero.f,G0,Int.toNat_natCast,Int.reduceToNat,Int.zero_sub,I3]))
 | (with_reducible exact A0.none _)
 | (with_reducible exact A0.refl _)
 | (with_reducible refine A0.posR (by with_reducible assumption) ?_)
 | (with_reducible refine A0.negR (by with_reducible assumption) ?_)
 | (with_reducible refine A0.bindR (by with_reducible assumption) ?_)
 | (with_reducible refine A0.posL (by with_reducible assumption) ?_)
 | (with_reducible refine A0.negL (by with_reducible assumption) ?_)
 | (with_reducible refine A0.iteL (fun _=>?_) (fun _=>?_))
 | (with_reducible refine A0.bindK (by with_reducible assumption) ?_)
 | (with_reducible refine A0.bindL (fun _ _=>?_))
 | (refine A0.posR (by first|decide|exact Int.le_refl _|omega|assumption) ?_)
 | (refine A0.negR (by first|decide|omega) ?_)
theorem F4q (k:Nat) (x0:ByteArray) (x1:ByteArray):A0 (A8y k x0 x1) (C5l (A7E k) (K2 k) x0 x1):=by
 show A0 (All.exact_NatAdd.f k x0 x1) _
 unfold All.exact_NatAdd.f
 unfold C5l
 (try simp only [A7E,I1,K2,N5,All.integer_zero.f,All.exact_stepAt.f,All.S24.f0,All.S24.f1,All.rd_T24,All.z24])
 (try simp only [F5,List.take_append_drop,List.drop_length,List.append_nil,Int.zero_sub,Int.toNat_natCast,Int.reduceToNat,Int.zero_add,List.take_zero,List.nil_append,List.append_assoc,List.length_set,X0,List.take_left,I3,bne,I0,decide_not,I4,if_true,if_false,Bool.false_eq_true,o4,v5,List.drop_zero,List.take_length,I2,G0,m7,C5,ite_not,Bool.and_eq_true,Bool.or_eq_true,Bool.not_eq_true',H7,Bool.not_eq_false',beq_iff_eq,decide_eq_true_eq,I5,H5,H6,ne_eq,H9,List.toList_toArray])
 repeat' first
 | (with_reducible refine A0.trans ((All.exact_NatAdd.mono_l k).1 _ _) ?_;rw [All.exact_NatAdd.j0];(try simp only [F5,if_true,if_false,decide_eq_true_eq,Bool.false_eq_true,decide_not,ite_not,bne,I0,beq_iff_eq,Bool.not_eq_true',H7,H9,List.toList_toArray,H5,H6,Bool.and_eq_true,Bool.or_eq_true,I5,I4,I2,All.integer_zero.f,G0,Int.toNat_natCast,Int.reduceToNat,Int.zero_sub,I3]))
 | (with_reducible exact A0.none _)
 | (with_reducible exact A0.refl _)
 | (with_reducible refine A0.posR (by with_reducible assumption) ?_)
 | (with_reducible refine A0.negR (by with_reducible assumption) ?_)
 | (with_reducible refine A0.bindR (by with_reducible assumption) ?_)
 | (with_reducible refine A0.posL (by with_reducible assumption) ?_)
 | (with_reducible refine A0.negL (by with_reducible assumption) ?_)
 | (with_reducible refine A0.iteL (fun _=>?_) (fun _=>?_))
 | (with_reducible refine A0.bindK (by with_reducible assumption) ?_)
 | (with_reducible refine A0.bindL (fun _ _=>?_))
 | (refine A0.posR (by first|decide|exact Int.le_refl _|omega|assumption) ?_)
 | (refine A0.negR (by first|decide|omega) ?_)
theorem E5R (k:Nat):B5 Tryz.prog (D8l (A8y k)):=
 B9 C0 HM B1O (es:=fun k=>C9H (I1 k) (K2 k) (N5 k)) (fun k=>fc ⟨A8J k,fc ⟨B0b k,fc ⟨C1j k,fz⟩⟩⟩) Tryz.func226 1 (by kernel_rfl) (fun s=>rfl) (fun k=>C8B (A7E k)) (fc ⟨fun s=>rfl,fz⟩) (fun k s0=> .cons (by kernel_rfl) (by kernel_rfl) (fun s r h=>(E9k (A7E k) (I1 k) (K2 k) (N5 k) s0 s).trans (E8e k s.1.1 s.1.2.1 s.1.2.2.1 s.2.1 s.2.2.1 s.2.2.2.1 r h)) (.nil)) (F:=fun k s=>A8y k s.1.1 s.1.2.1) (fun k s r h=>(F3L (A7E k) (I1 k) (K2 k) (N5 k) s).trans (F4q k s.1.1 s.1.2.1 r h)) k
theorem E7D (k:Nat) (x0:ByteArray) (x1:ByteArray):A0 (A8U k x0 x1) (C7R x0 x1):=by
 show A0 (All.exact_NatCmp.f k x0 x1) _
 unfold All.exact_NatCmp.f
 unfold C7R
 (try simp only [All.integer_zero.f,All.exact_stepAt.f,All.S24.f0,All.S24.f1,All.rd_T24,All.z24])
 (try simp only [F5,List.take_append_drop,List.drop_length,List.append_nil,Int.zero_sub,Int.toNat_natCast,Int.reduceToNat,Int.zero_add,List.take_zero,List.nil_append,List.append_assoc,List.length_set,X0,List.take_left,I3,bne,I0,decide_not,I4,if_true,if_false,Bool.false_eq_true,o4,v5,List.drop_zero,List.take_length,I2,G0,m7,C5,ite_not,Bool.and_eq_true,Bool.or_eq_true,Bool.not_eq_true',H7,Bool.not_eq_false',beq_iff_eq,decide_eq_true_eq,I5,H5,H6,ne_eq,H9,List.toList_toArray])
 repeat' first
 | (with_reducible refine A0.trans ((All.exact_NatCmp.mono_l k) _ _ _) ?_;rw [All.exact_NatCmp.j0];(try simp only [F5,if_true,if_false,decide_eq_true_eq,Bool.false_eq_true,decide_not,ite_not,bne,I0,beq_iff_eq,Bool.not_eq_true',H7,H9,List.toList_toArray,H5,H6,Bool.and_eq_true,Bool.or_eq_true,I5,I4,I2,All.integer_zero.f,G0,Int.toNat_natCast,Int.reduceToNat,Int.zero_sub,I3]))
 | (with_reducible exact A0.none _)
 | (with_reducible exact A0.refl _)
 | (with_reducible refine A0.posR (by with_reducible assumption) ?_)
 | (with_reducible refine A0.negR (by with_reducible assumption) ?_)
 | (with_reducible refine A0.bindR (by with_reducible assumption) ?_)
 | (with_reducible refine A0.posL (by with_reducible assumption) ?_)
 | (with_reducible refine A0.negL (by with_reducible assumption) ?_)
 | (with_reducible refine A0.iteL (fun _=>?_) (fun _=>?_))
 | (with_reducible refine A0.bindK (by with_reducible assumption) ?_)
 | (with_reducible refine A0.bindL (fun _ _=>?_))
 | (refine A0.posR (by first|decide|exact Int.le_refl _|omega|assumption) ?_)
 | (refine A0.negR (by first|decide|omega) ?_)
theorem F5n (k:Nat):B5 Tryz.prog (D6u (A8U k)):=
 B9 C0 HM B7d (es:=fun k=>[]) (fun k=>fz) Tryz.func227 0 (by kernel_rfl) (fun s=>rfl) (fun k=>[]) (fz) (fun k s0=> .nil) (F:=fun k s=>A8U k s.1.1 s.1.2.1) (fun k s r h=>(F2w s).trans (E7D k s.1.1 s.1.2.1 r h)) k
noncomputable abbrev A8Z (k:Nat) (x7:Int) (x15:Int) (x16:Int) (x5:(List Int)) (x6:(List Int)):Option A2E:=All.exact_NatSub.l0 k x5 x6 x7 x15 x16
theorem F4f (k:Nat) (x7:Int) (x15:Int) (x16:Int) (x5:(List Int)) (x6:(List Int)):A0 (All.exact_NatSub.l0 (k+1) x5 x6 x7 x15 x16) (C5h (A8Z k) (I1 k) (b9 k) x7 x15 x16 x5 x6):=by rw [All.exact_NatSub.l0];unfold C5h;(try simp only [A8Z,I1,K2,b9,All.integer_zero.f,All.exact_stepAt.f,All.S24.f0,All.S24.f1,All.rd_T24,All.z24]);exact BR
theorem F5x (k:Nat) (x0:ByteArray) (x1:ByteArray):A0 (A8N k x0 x1) (C1M (A8Z k) (K2 k) x0 x1):=by
 show A0 (All.exact_NatSub.f k x0 x1) _
 unfold All.exact_NatSub.f;unfold C1M;(try simp only [A8Z,I1,K2,b9,All.integer_zero.f,All.exact_stepAt.f,All.S24.f0,All.S24.f1,All.rd_T24,All.z24]);exact BR
theorem F3X (k:Nat):B5 Tryz.prog (D2Z (A8N k)):=
 B9 C0 HM A9s (es:=fun k=>C4O (I1 k) (K2 k) (b9 k)) (fun k=>fc ⟨A8J k,fc ⟨B0b k,fc ⟨D6j k,fz⟩⟩⟩) Tryz.func228 1 (by kernel_rfl) (fun s=>rfl) (fun k=>C0J (A8Z k)) (fc ⟨fun s=>rfl,fz⟩) (fun k s0=> .cons (by kernel_rfl) (by kernel_rfl) (fun s r h=>(E2W (A8Z k) (I1 k) (K2 k) (b9 k) s0 s).trans (F4f k s.1.1 s.1.2.1 s.1.2.2.1 s.2.1 s.2.2.1 r h)) (.nil)) (F:=fun k s=>A8N k s.1.1 s.1.2.1) (fun k s r h=>(F6k (A8Z k) (I1 k) (K2 k) (b9 k) s).trans (F5x k s.1.1 s.1.2.1 r h)) k
theorem E5K (k:Nat) (x0:TI) (x1:TI):A0 (A3E k x0 x1) (C8X (L3 k) (A8y k) (A8U k) (A8N k) x0 x1):=by
 show A0 (All.exact_IntAdd.f k x0.1 x0.2 x1.1 x1.2) _
 unfold All.exact_IntAdd.f;unfold C8X;(try simp only [L3,A8y,A8U,A8N,All.integer_zero.f,All.exact_stepAt.f,All.S24.f0,All.S24.f1,All.rd_T24,All.z24]);exact BR
theorem E3g (k:Nat):B5 Tryz.prog (D2j (A3E k)):=
 B9 C0 HM B8t (es:=fun k=>D5q (L3 k) (A8y k) (A8U k) (A8N k)) (fun k=>fc ⟨B0K k,fc ⟨E5R k,fc ⟨F5n k,fc ⟨F3X k,fz⟩⟩⟩⟩) Tryz.func191 0 (by kernel_rfl) (fun s=>rfl) (fun k=>[]) (fz) (fun k s0=> .nil) (F:=fun k s=>A3E k s.1.1 s.1.2.1) (fun k s r h=>(E5c (L3 k) (A8y k) (A8U k) (A8N k) s).trans (E5K k s.1.1 s.1.2.1 r h)) k
theorem E4H (k:Nat) (x0:TQ) (x1:TQ):A0 (L2 k x0 x1) (B0T (S5 k) (f9 k) (T5 k) (A3E k) (L3 k) x0 x1):=A0.refl _
theorem C7Q (k:Nat):B5 Tryz.prog (B5g (L2 k)):=
 B9 C0 HM B9Q (es:=fun k=>D4c (S5 k) (f9 k) (T5 k) (A3E k) (L3 k)) (fun k=>fc ⟨C8U k,fc ⟨D1k k,fc ⟨C6d k,fc ⟨E3g k,fc ⟨B0K k,fz⟩⟩⟩⟩⟩) Tryz.func148 0 (by kernel_rfl) (fun s=>rfl) (fun k=>[]) (fz) (fun k s0=> .nil) (F:=fun k s=>L2 k s.1.1 s.1.2.1) (fun k s r h=>(E6E (S5 k) (f9 k) (T5 k) (A3E k) (L3 k) s).trans (E4H k s.1.1 s.1.2.1 r h)) k
theorem b88 (k:Nat) (x0:TQ) (x1:TQ):A0 (N4 k x0 x1) (B88 (t4 k) (L2 k) x0 x1):=A0.refl _
theorem C1r (k:Nat):B5 Tryz.prog (B9P (N4 k)):=
 B9 C0 HM D88 (es:=fun k=>D1X (t4 k) (L2 k)) (fun k=>fc ⟨D8S k,fc ⟨C7Q k,fz⟩⟩) Tryz.func88 0 (by kernel_rfl) (fun s=>rfl) (fun k=>[]) (fz) (fun k s0=> .nil) (F:=fun k s=>N4 k s.1.1 s.1.2.1) (fun k s r h=>(e88 (t4 k) (L2 k) s).trans (b88 k s.1.1 s.1.2.1 r h)) k
theorem D9x (k:Nat) (x0:TP) (x3:Int):A0 (A0n (k+1) x0 x3) (A8V (A0n k) (J9 k) x0 x3):=by rw [A0n];exact A0.refl _
theorem b92 (k:Nat) (x0:TP):A0 (E9 k x0) (B92 (A0n k) x0):=A0.refl _
theorem A7M (k:Nat):B5 Tryz.prog (A5x (E9 k)):=
 B9 C0 HM D92 (es:=fun k=>C2x (J9 k)) (fun k=>fc ⟨B7o k,fz⟩) Tryz.func92 1 (by kernel_rfl) (fun s=>rfl) (fun k=>C5P (A0n k)) (fc ⟨fun s=>rfl,fz⟩) (fun k s0=> .cons (by kernel_rfl) (by kernel_rfl) (fun s r h=>(E6B (A0n k) (J9 k) s0 s).trans (D9x k s.1.1 s.1.2.1 r h)) (.nil)) (F:=fun k s=>E9 k s.1.1) (fun k s r h=>(e92 (A0n k) (J9 k) s).trans (b92 k s.1.1 r h)) k
theorem E9i (k:Nat) (x0:TQ):A0 (P9 k x0) (B6h x0):=A0.refl _
theorem C4B (k:Nat):B5 Tryz.prog (B6A (P9 k)):=
 B9 C0 HM B8s (es:=fun k=>[]) (fun k=>fz) Tryz.func147 0 (by kernel_rfl) (fun s=>rfl) (fun k=>[]) (fz) (fun k s0=> .nil) (F:=fun k s=>P9 k s.1.1) (fun k s r h=>(F4P s).trans (E9i k s.1.1 r h)) k
theorem F0L (k:Nat) (x0:TP):A0 (C7E k x0) (C1p x0):=A0.refl _
theorem D9t (k:Nat):B5 Tryz.prog (F5H (C7E k)):=
 B9 C0 HM B7M (es:=fun k=>[]) (fun k=>fz) Tryz.func189 0 (by kernel_rfl) (fun s=>rfl) (fun k=>[]) (fz) (fun k s0=> .nil) (F:=fun k s=>C7E k s.1.1) (fun k s r h=>(D9n s).trans (F0L k s.1.1 r h)) k
theorem F2U (k:Nat) (x0:TP):A0 (C8Z k x0) (A6C x0):=A0.refl _
theorem E5x (k:Nat):B5 Tryz.prog (F2O (C8Z k)):=
 B9 C0 HM B8K (es:=fun k=>[]) (fun k=>fz) Tryz.func189 0 (by kernel_rfl) (fun s=>rfl) (fun k=>[]) (fz) (fun k s0=> .nil) (F:=fun k s=>C8Z k s.1.1) (fun k s r h=>(E3M s).trans (F2U k s.1.1 r h)) k
theorem E1G (k:Nat):B5 Tryz.prog (D2A (A3J k)):=F0P (D9t k) (E5x k) (fun s r h=>⟨h,fun hx=>by
 have e:A6C []=some []:=by kernel_rfl
 have h':A6C s.1.1=some r:=h
 rw [hx,e]at h'
 cases h'
 rfl⟩)
theorem F4Y (k:Nat) (x0:TP) (x1:TP) (x7:Int) (x30:Int) (x31:Int) (x6:TP) (x8:TP):A0 (t7 (k+1) x0 x1 x7 x30 x31 x6 x8) (A8d (t7 k) (T2 k) (E6 k) (P9 k) x0 x1 x7 x30 x31 x6 x8):=by rw [t7];exact A0.refl _
theorem E6M (k:Nat) (x1:TP) (x7:Int) (x11:Int) (x6:TP) (x8:TP) (x10:TQ):A0 (T2 (k+1) x1 x7 x11 x6 x8 x10) (A8n (T2 k) (m6 k) (E9 k) (F8 k) (J9 k) x1 x7 x11 x6 x8 x10):=by rw [T2];exact A0.refl _
theorem E6N (k:Nat) (x1:TP) (x7:Int) (x11:Int) (x69:Int) (x70:Int) (x6:TP) (x8:TP) (x10:TQ) (x12:TQ):A0 (m6 (k+1) x1 x7 x11 x69 x70 x6 x8 x10 x12) (A7y (T2 k) (m6 k) (N4 k) (F8 k) x1 x7 x11 x69 x70 x6 x8 x10 x12):=by rw [m6];exact A0.refl _
theorem F5t (k:Nat) (x0:TP) (x1:TP):A0 (W8 k x0 x1) (B4s (t7 k) (A3J k) x0 x1):=A0.refl _
theorem C0z (k:Nat):B5 Tryz.prog (B8W (W8 k)):=
 B9 C0 HM A3X (es:=fun k=>B2X (N4 k) (E6 k) (E9 k) (F8 k) (P9 k) (J9 k) (A3J k)) (fun k=>fc ⟨C1r k,fc ⟨A7i k,fc ⟨A7M k,fc ⟨B3Z k,fc ⟨C4B k,fc ⟨B7o k,fc ⟨E1G k,fz⟩⟩⟩⟩⟩⟩⟩) Tryz.func144 3 (by kernel_rfl) (fun s=>rfl) (fun k=>B4l (t7 k) (T2 k) (m6 k)) (fc ⟨fun s=>rfl,fc ⟨fun s=>rfl,fc ⟨fun s=>rfl,fz⟩⟩⟩) (fun k s0=> .cons (by kernel_rfl) (by kernel_rfl) (fun s r h=>(E4m (t7 k) (T2 k) (m6 k) (N4 k) (E6 k) (E9 k) (F8 k) (P9 k) (J9 k) (A3J k) s0 s).trans (F4Y k s.1.1 s.1.2.1 s.1.2.2.1 s.1.2.2.2.1 s.1.2.2.2.2.1 s.2.1 s.2.2.1 r h)) (.cons (by kernel_rfl) (by kernel_rfl) (fun s r h=>(E9X (t7 k) (T2 k) (m6 k) (N4 k) (E6 k) (E9 k) (F8 k) (P9 k) (J9 k) (A3J k) s0 s).trans (E6M k s.1.1 s.1.2.1 s.1.2.2.1 s.2.1 s.2.2.1 s.2.2.2.1 r h)) (.cons (by kernel_rfl) (by kernel_rfl) (fun s r h=>(E6o (t7 k) (T2 k) (m6 k) (N4 k) (E6 k) (E9 k) (F8 k) (P9 k) (J9 k) (A3J k) s0 s).trans (E6N k s.1.1 s.1.2.1 s.1.2.2.1 s.1.2.2.2.1 s.1.2.2.2.2.1 s.2.1 s.2.2.1 s.2.2.2.1 s.2.2.2.2.1 r h)) (.nil)))) (F:=fun k s=>W8 k s.1.1 s.1.2.1) (fun k s r h=>(E7h (t7 k) (T2 k) (m6 k) (N4 k) (E6 k) (E9 k) (F8 k) (P9 k) (J9 k) (A3J k) s).trans (F5t k s.1.1 s.1.2.1 r h)) k
theorem E5O (k:Nat) (x0:TP) (x1:TP) (x4:TQ) (x5:TQ):A0 (A4j (k+1) x0 x1 x4 x5) (C7W (A4j k) (E6 k) (F8 k) (A6b k) (W8 k) (t4 k) x0 x1 x4 x5):=by rw [A4j];exact A0.refl _
theorem b84 (k:Nat) (x0:TP) (x1:TP):A0 (A2J k x0 x1) (B84 (A4j k) (E6 k) x0 x1):=A0.refl _
theorem E4R (k:Nat):B5 Tryz.prog (D6w (A2J k)):=
 B9 C0 HM D84 (es:=fun k=>C4o (E6 k) (F8 k) (A6b k) (W8 k) (t4 k)) (fun k=>fc ⟨A7i k,fc ⟨B3Z k,fc ⟨F5W k,fc ⟨C0z k,fc ⟨D8S k,fz⟩⟩⟩⟩⟩) Tryz.func84 1 (by kernel_rfl) (fun s=>rfl) (fun k=>C0Y (A4j k)) (fc ⟨fun s=>rfl,fz⟩) (fun k s0=> .cons (by kernel_rfl) (by kernel_rfl) (fun s r h=>(F3e (A4j k) (E6 k) (F8 k) (A6b k) (W8 k) (t4 k) s0 s).trans (E5O k s.1.1 s.1.2.1 s.2.1 s.2.2.1 r h)) (.nil)) (F:=fun k s=>A2J k s.1.1 s.1.2.1) (fun k s r h=>(e84 (A4j k) (E6 k) (F8 k) (A6b k) (W8 k) (t4 k) s).trans (b84 k s.1.1 s.1.2.1 r h)) k
theorem F2H (k:Nat) (x0:TP) (x1:Int):A0 (o5 k x0 x1) (B3X (E6 k) x0 x1):=A0.refl _
theorem D2F (k:Nat):B5 Tryz.prog (C2c (o5 k)):=
 B9 C0 HM B5k (es:=fun k=>D8E (E6 k)) (fun k=>fc ⟨A7i k,fz⟩) Tryz.func151 0 (by kernel_rfl) (fun s=>rfl) (fun k=>[]) (fz) (fun k s0=> .nil) (F:=fun k s=>o5 k s.1.1 s.1.2.1) (fun k s r h=>(F2d (E6 k) s).trans (F2H k s.1.1 s.1.2.1 r h)) k
theorem E1D (k:Nat) (x0:TP) (x1:TP) (x14:Int) (x15:Int) (x5:TP):A0 (A1D (k+1) x0 x1 x14 x15 x5) (A8i (A1D k) (E9 k) (L2 k) (o5 k) x0 x1 x14 x15 x5):=by rw [A1D];exact A0.refl _
theorem b90 (k:Nat) (x0:TP) (x1:TP):A0 (K0 k x0 x1) (B90 (A1D k) x0 x1):=A0.refl _
theorem B6c (k:Nat):B5 Tryz.prog (B4I (K0 k)):=
 B9 C0 HM D90 (es:=fun k=>C1h (E9 k) (L2 k) (o5 k)) (fun k=>fc ⟨A7M k,fc ⟨C7Q k,fc ⟨D2F k,fz⟩⟩⟩) Tryz.func90 1 (by kernel_rfl) (fun s=>rfl) (fun k=>C0R (A1D k)) (fc ⟨fun s=>rfl,fz⟩) (fun k s0=> .cons (by kernel_rfl) (by kernel_rfl) (fun s r h=>(E8C (A1D k) (E9 k) (L2 k) (o5 k) s0 s).trans (E1D k s.1.1 s.1.2.1 s.1.2.2.1 s.1.2.2.2.1 s.2.1 r h)) (.nil)) (F:=fun k s=>K0 k s.1.1 s.1.2.1) (fun k s r h=>(e90 (A1D k) (E9 k) (L2 k) (o5 k) s).trans (b90 k s.1.1 s.1.2.1 r h)) k
theorem F5P (k:Nat) (x0:TP) (x1:TP) (x27:Int) (x28:Int) (x5:TP):A0 (o7 (k+1) x0 x1 x27 x28 x5) (A7G (o7 k) (T9 k) (E6 k) x0 x1 x27 x28 x5):=by rw [o7];exact A0.refl _
theorem E9n (k:Nat) (x1:TP) (x36:TP) (x37:Int) (x38:Int) (x5:TP):A0 (T9 (k+1) x1 x36 x37 x38 x5) (A8a (T9 k) (k9 k) (E9 k) (J9 k) x1 x36 x37 x38 x5):=by rw [T9];exact A0.refl _
theorem E9M (k:Nat) (x1:TP) (x7:Int) (x36:TP) (x37:Int) (x38:Int) (x45:TP) (x46:Int) (x47:Int) (x5:TP) (x8:TQ):A0 (k9 (k+1) x1 x7 x36 x37 x38 x45 x46 x47 x5 x8) (A8M (T9 k) (k9 k) (F8 k) (L2 k) x1 x7 x36 x37 x38 x45 x46 x47 x5 x8):=by rw [k9];exact A0.refl _
theorem b91 (k:Nat) (x0:TP) (x1:TP):A0 (M2 k x0 x1) (B91 (o7 k) x0 x1):=A0.refl _
theorem B8M (k:Nat):B5 Tryz.prog (B4J (M2 k)):=
 B9 C0 HM D91 (es:=fun k=>B4k (E6 k) (E9 k) (F8 k) (L2 k) (J9 k)) (fun k=>fc ⟨A7i k,fc ⟨A7M k,fc ⟨B3Z k,fc ⟨C7Q k,fc ⟨B7o k,fz⟩⟩⟩⟩⟩) Tryz.func91 3 (by kernel_rfl) (fun s=>rfl) (fun k=>B4H (o7 k) (T9 k) (k9 k)) (fc ⟨fun s=>rfl,fc ⟨fun s=>rfl,fc ⟨fun s=>rfl,fz⟩⟩⟩) (fun k s0=> .cons (by kernel_rfl) (by kernel_rfl) (fun s r h=>(E6C (o7 k) (T9 k) (k9 k) (E6 k) (E9 k) (F8 k) (L2 k) (J9 k) s0 s).trans (F5P k s.1.1 s.1.2.1 s.1.2.2.1 s.1.2.2.2.1 s.2.1 r h)) (.cons (by kernel_rfl) (by kernel_rfl) (fun s r h=>(E5y (o7 k) (T9 k) (k9 k) (E6 k) (E9 k) (F8 k) (L2 k) (J9 k) s0 s).trans (E9n k s.1.1 s.1.2.1 s.1.2.2.1 s.1.2.2.2.1 s.2.1 r h)) (.cons (by kernel_rfl) (by kernel_rfl) (fun s r h=>(E3z (o7 k) (T9 k) (k9 k) (E6 k) (E9 k) (F8 k) (L2 k) (J9 k) s0 s).trans (E9M k s.1.1 s.1.2.1 s.1.2.2.1 s.1.2.2.2.1 s.1.2.2.2.2.1 s.1.2.2.2.2.2.1 s.1.2.2.2.2.2.2.1 s.1.2.2.2.2.2.2.2.1 s.2.1 s.2.2.1 r h)) (.nil)))) (F:=fun k s=>M2 k s.1.1 s.1.2.1) (fun k s r h=>(e91 (o7 k) (T9 k) (k9 k) (E6 k) (E9 k) (F8 k) (L2 k) (J9 k) s).trans (b91 k s.1.1 s.1.2.1 r h)) k
theorem D9S (k:Nat) (x0:TP) (x1:TP):A0 (O1 k x0 x1) (B2t (W8 k) x0 x1):=A0.refl _
theorem C5c (k:Nat):B5 Tryz.prog (B5r (O1 k)):=
 B9 C0 HM B6y (es:=fun k=>D8i (W8 k)) (fun k=>fc ⟨C0z k,fz⟩) Tryz.func165 0 (by kernel_rfl) (fun s=>rfl) (fun k=>[]) (fz) (fun k s0=> .nil) (F:=fun k s=>O1 k s.1.1 s.1.2.1) (fun k s r h=>(F1A (W8 k) s).trans (D9S k s.1.1 s.1.2.1 r h)) k
theorem E7L (k:Nat) (x0:TP) (x1:TP) (x2:TP):A0 (Q8 k x0 x1 x2) (B3M (M2 k) (O1 k) x0 x1 x2):=A0.refl _
theorem C2m (k:Nat):B5 Tryz.prog (B8b (Q8 k)):=
 B9 C0 HM B7t (es:=fun k=>D7c (M2 k) (O1 k)) (fun k=>fc ⟨B8M k,fc ⟨C5c k,fz⟩⟩) Tryz.func146 0 (by kernel_rfl) (fun s=>rfl) (fun k=>[]) (fz) (fun k s0=> .nil) (F:=fun k s=>Q8 k s.1.1 s.1.2.1 s.1.2.2.1) (fun k s r h=>(E7O (M2 k) (O1 k) s).trans (E7L k s.1.1 s.1.2.1 s.1.2.2.1 r h)) k
theorem E0G (k:Nat) (x1:TF) (x2:TP) (x7:TP) (x8:Int) (x3:TP):A0 (A0Z (k+1) x1 x2 x7 x8 x3) (A7B (A0Z k) (K0 k) (Q8 k) x1 x2 x7 x8 x3):=by rw [A0Z];exact A0.refl _
theorem b85 (k:Nat) (x0:TP) (x1:TF) (x2:TP):A0 (Y4 k x0 x1 x2) (B85 (A0Z k) x0 x1 x2):=A0.refl _
theorem D0y (k:Nat):B5 Tryz.prog (C8s (Y4 k)):=
 B9 C0 HM D85 (es:=fun k=>C6R (K0 k) (Q8 k)) (fun k=>fc ⟨B6c k,fc ⟨C2m k,fz⟩⟩) Tryz.func85 1 (by kernel_rfl) (fun s=>rfl) (fun k=>C0x (A0Z k)) (fc ⟨fun s=>rfl,fz⟩) (fun k s0=> .cons (by kernel_rfl) (by kernel_rfl) (fun s r h=>(F1L (A0Z k) (K0 k) (Q8 k) s0 s).trans (E0G k s.1.1 s.1.2.1 s.1.2.2.1 s.1.2.2.2.1 s.2.1 r h)) (.nil)) (F:=fun k s=>Y4 k s.1.1 s.1.2.1 s.1.2.2.1) (fun k s r h=>(e85 (A0Z k) (K0 k) (Q8 k) s).trans (b85 k s.1.1 s.1.2.1 s.1.2.2.1 r h)) k
theorem F2p (k:Nat) (x9:(List Int)) (x10:Int) (x11:Int) (x3:TP):A0 (A4c (k+1) x9 x10 x11 x3) (C9i (A4c k) (E6 k) (E9 k) x9 x10 x11 x3):=by rw [A4c];exact A0.refl _
theorem b86 (k:Nat) (x0:(List Int)):A0 (M0 k x0) (B86 (A4c k) x0):=A0.refl _
theorem B5z (k:Nat):B5 Tryz.prog (B3y (M0 k)):=
 B9 C0 HM D86 (es:=fun k=>C7e (E6 k) (E9 k)) (fun k=>fc ⟨A7i k,fc ⟨A7M k,fz⟩⟩) Tryz.func86 1 (by kernel_rfl) (fun s=>rfl) (fun k=>C5e (A4c k)) (fc ⟨fun s=>rfl,fz⟩) (fun k s0=> .cons (by kernel_rfl) (by kernel_rfl) (fun s r h=>(E3F (A4c k) (E6 k) (E9 k) s0 s).trans (F2p k s.1.1 s.1.2.1 s.1.2.2.1 s.2.1 r h)) (.nil)) (F:=fun k s=>M0 k s.1.1) (fun k s r h=>(e86 (A4c k) (E6 k) (E9 k) s).trans (b86 k s.1.1 r h)) k
theorem b87 (k:Nat) (x0:TQ) (x1:TQ):A0 (A2B k x0 x1) (B87 (F8 k) (P9 k) x0 x1):=A0.refl _
theorem F3c (k:Nat):B5 Tryz.prog (D6t (A2B k)):=
 B9 C0 HM D87 (es:=fun k=>D3u (F8 k) (P9 k)) (fun k=>fc ⟨B3Z k,fc ⟨C4B k,fz⟩⟩) Tryz.func87 0 (by kernel_rfl) (fun s=>rfl) (fun k=>[]) (fz) (fun k s0=> .nil) (F:=fun k s=>A2B k s.1.1 s.1.2.1) (fun k s r h=>(e87 (F8 k) (P9 k) s).trans (b87 k s.1.1 s.1.2.1 r h)) k
theorem E9w (k:Nat) (x0:TQ):A0 (A2u k x0) (B3B x0):=A0.refl _
theorem E1E (k:Nat):B5 Tryz.prog (D4Q (A2u k)):=
 B9 C0 HM B7h (es:=fun k=>[]) (fun k=>fz) Tryz.func154 0 (by kernel_rfl) (fun s=>rfl) (fun k=>[]) (fz) (fun k s0=> .nil) (F:=fun k s=>A2u k s.1.1) (fun k s r h=>(F1W s).trans (E9w k s.1.1 r h)) k
theorem E7g (k:Nat) (x0:TP) (x7:Int) (x8:Int):A0 (A1B (k+1) x0 x7 x8) (A7h (A1B k) (A2u k) x0 x7 x8):=by rw [A1B];exact A0.refl _
theorem E3f (k:Nat) (x0:TP):A0 (A5c k x0) (B4v (A1B k) x0):=A0.refl _
theorem E2k (k:Nat):B5 Tryz.prog (D7u (A5c k)):=
 B9 C0 HM A9M (es:=fun k=>C0X (A2u k)) (fun k=>fc ⟨E1E k,fz⟩) Tryz.func194 1 (by kernel_rfl) (fun s=>rfl) (fun k=>C7D (A1B k)) (fc ⟨fun s=>rfl,fz⟩) (fun k s0=> .cons (by kernel_rfl) (by kernel_rfl) (fun s r h=>(F0j (A1B k) (A2u k) s0 s).trans (E7g k s.1.1 s.1.2.1 s.1.2.2.1 r h)) (.nil)) (F:=fun k s=>A5c k s.1.1) (fun k s r h=>(E4e (A1B k) (A2u k) s).trans (E3f k s.1.1 r h)) k
theorem F4L (k:Nat) (x0:TP):A0 (A1a k x0) (C2B (A5c k) x0):=A0.refl _
theorem D7L (k:Nat):B5 Tryz.prog (C8o (A1a k)):=
 B9 C0 HM B9k (es:=fun k=>D2D (A5c k)) (fun k=>fc ⟨E2k k,fz⟩) Tryz.func153 0 (by kernel_rfl) (fun s=>rfl) (fun k=>[]) (fz) (fun k s0=> .nil) (F:=fun k s=>A1a k s.1.1) (fun k s r h=>(F1E (A5c k) s).trans (F4L k s.1.1 r h)) k
theorem b93 (k:Nat) (x0:TP):A0 (A1z k x0) (B93 (A1a k) x0):=A0.refl _
theorem E9t (k:Nat):B5 Tryz.prog (D5r (A1z k)):=
 B9 C0 HM D93 (es:=fun k=>D0a (A1a k)) (fun k=>fc ⟨D7L k,fz⟩) Tryz.func93 0 (by kernel_rfl) (fun s=>rfl) (fun k=>[]) (fz) (fun k s0=> .nil) (F:=fun k s=>A1z k s.1.1) (fun k s r h=>(e93 (A1a k) s).trans (b93 k s.1.1 r h)) k
theorem E5I (k:Nat) (x1:TF) (x7:Int) (x38:Int) (x39:Int) (x2:TP) (x8:TP):A0 (A1j (k+1) x1 x7 x38 x39 x2 x8) (C3s (A1j k) (A1V k) (A2J k) (Y4 k) (M0 k) x1 x7 x38 x39 x2 x8):=by rw [A1j];exact A0.refl _
theorem E2g (k:Nat) (x7:Int) (x10:Int) (x8:TP):A0 (A1V (k+1) x7 x10 x8) (C2O (A1b k) (A1S k) x7 x10 x8):=by rw [A1V];exact A0.refl _
theorem F3C (k:Nat) (x7:Int) (x10:Int) (x11:Int) (x8:TP):A0 (A1b (k+1) x7 x10 x11 x8) (C5K (A1V k) (A1b k) (A2B k) (N4 k) (E6 k) x7 x10 x11 x8):=by rw [A1b];exact A0.refl _
theorem E6O (k:Nat) (x12:TP) (x13:Int) (x8:TP):A0 (A1S (k+1) x12 x13 x8) (C7w (A1S k) (M0 k) (K0 k) (M2 k) (E9 k) (A1z k) x12 x13 x8):=by rw [A1S];exact A0.refl _
theorem b17 (k:Nat) (x0:TP) (x1:TF):A0 (A6x k x0 x1) (B17 (A1j k) (J8 k) x0 x1):=A0.refl _
theorem F6d (k:Nat):B5 Tryz.prog (D2z (A6x k)):=
 B9 C0 HM D17 (es:=fun k=>B1y (J8 k) (A2J k) (Y4 k) (M0 k) (A2B k) (N4 k) (E6 k) (K0 k) (M2 k) (E9 k) (A1z k)) (fun k=>fc ⟨B1f k,fc ⟨E4R k,fc ⟨D0y k,fc ⟨B5z k,fc ⟨F3c k,fc ⟨C1r k,fc ⟨A7i k,fc ⟨B6c k,fc ⟨B8M k,fc ⟨A7M k,fc ⟨E9t k,fz⟩⟩⟩⟩⟩⟩⟩⟩⟩⟩⟩) Tryz.func17 4 (by kernel_rfl) (fun s=>rfl) (fun k=>B0O (A1j k) (A1V k) (A1b k) (A1S k)) (fc ⟨fun s=>rfl,fc ⟨fun s=>rfl,fc ⟨fun s=>rfl,fc ⟨fun s=>rfl,fz⟩⟩⟩⟩) (fun k s0=> .cons (by kernel_rfl) (by kernel_rfl) (fun s r h=>(F1e (A1j k) (A1V k) (A1b k) (A1S k) (J8 k) (A2J k) (Y4 k) (M0 k) (A2B k) (N4 k) (E6 k) (K0 k) (M2 k) (E9 k) (A1z k) s0 s).trans (E5I k s.1.1 s.1.2.1 s.1.2.2.1 s.1.2.2.2.1 s.2.1 s.2.2.1 r h)) (.cons (by kernel_rfl) (by kernel_rfl) (fun s r h=>(F4A (A1j k) (A1V k) (A1b k) (A1S k) (J8 k) (A2J k) (Y4 k) (M0 k) (A2B k) (N4 k) (E6 k) (K0 k) (M2 k) (E9 k) (A1z k) s0 s).trans (E2g k s.1.1 s.1.2.1 s.2.1 r h)) (.cons (by kernel_rfl) (by kernel_rfl) (fun s r h=>(F5e (A1j k) (A1V k) (A1b k) (A1S k) (J8 k) (A2J k) (Y4 k) (M0 k) (A2B k) (N4 k) (E6 k) (K0 k) (M2 k) (E9 k) (A1z k) s0 s).trans (F3C k s.1.1 s.1.2.1 s.1.2.2.1 s.2.1 r h)) (.cons (by kernel_rfl) (by kernel_rfl) (fun s r h=>(F5d (A1j k) (A1V k) (A1b k) (A1S k) (J8 k) (A2J k) (Y4 k) (M0 k) (A2B k) (N4 k) (E6 k) (K0 k) (M2 k) (E9 k) (A1z k) s0 s).trans (E6O k s.1.1 s.1.2.1 s.2.1 r h)) (.nil))))) (F:=fun k s=>A6x k s.1.1 s.1.2.1) (fun k s r h=>(e17 (A1j k) (A1V k) (A1b k) (A1S k) (J8 k) (A2J k) (Y4 k) (M0 k) (A2B k) (N4 k) (E6 k) (K0 k) (M2 k) (E9 k) (A1z k) s).trans (b17 k s.1.1 s.1.2.1 r h)) k
theorem F1F (k:Nat) (x0:TP) (x1:TP) (x12:Int) (x13:Int):A0 (A1I (k+1) x0 x1 x12 x13) (A8W (A1I k) x0 x1 x12 x13):=by rw [A1I];exact A0.refl _
theorem b18 (k:Nat) (x0:TP) (x1:TP):A0 (W4 k x0 x1) (B18 (A1I k) x0 x1):=A0.refl _
theorem C5G (k:Nat):B5 Tryz.prog (B8E (W4 k)):=
 B9 C0 HM D18 (es:=fun k=>[]) (fun k=>fz) Tryz.func18 1 (by kernel_rfl) (fun s=>rfl) (fun k=>C2n (A1I k)) (fc ⟨fun s=>rfl,fz⟩) (fun k s0=> .cons (by kernel_rfl) (by kernel_rfl) (fun s r h=>(F1K (A1I k) s0 s).trans (F1F k s.1.1 s.1.2.1 s.1.2.2.1 s.1.2.2.2.1 r h)) (.nil)) (F:=fun k s=>W4 k s.1.1 s.1.2.1) (fun k s r h=>(e18 (A1I k) s).trans (b18 k s.1.1 s.1.2.1 r h)) k
theorem D9H (k:Nat) (x0:TI):A0 (A4d k x0) (C4K x0):=by
 show A0 (All.galoisref02_Sign.f x0.1 x0.2) _
 unfold All.galoisref02_Sign.f;unfold C4K;(try simp only [All.integer_zero.f,All.exact_stepAt.f,All.S24.f0,All.S24.f1,All.rd_T24,All.z24]);exact BR
theorem F4r (k:Nat):B5 Tryz.prog (D3z (A4d k)):=
 B9 C0 HM B8z (es:=fun k=>[]) (fun k=>fz) Tryz.func173 0 (by kernel_rfl) (fun s=>rfl) (fun k=>[]) (fz) (fun k s0=> .nil) (F:=fun k s=>A4d k s.1.1) (fun k s r h=>(E1F s).trans (D9H k s.1.1 r h)) k
theorem F1C (k:Nat) (x0:TQ):A0 (R0 k x0) (B4t (A4d k) x0):=A0.refl _
theorem D0V (k:Nat):B5 Tryz.prog (C5H (R0 k)):=
 B9 C0 HM B6i (es:=fun k=>D2d (A4d k)) (fun k=>fc ⟨F4r k,fz⟩) Tryz.func123 0 (by kernel_rfl) (fun s=>rfl) (fun k=>[]) (fz) (fun k s0=> .nil) (F:=fun k s=>R0 k s.1.1) (fun k s r h=>(F1z (A4d k) s).trans (F1C k s.1.1 r h)) k
theorem F2N (k:Nat) (x0:TP) (x3:Int):A0 (A0K (k+1) x0 x3) (A8r (A0K k) (R0 k) x0 x3):=by rw [A0K];exact A0.refl _
theorem b48 (k:Nat) (x0:TP):A0 (G1 k x0) (B48 (A0K k) x0):=A0.refl _
theorem B1D (k:Nat):B5 Tryz.prog (A8A (G1 k)):=
 B9 C0 HM D48 (es:=fun k=>C6k (R0 k)) (fun k=>fc ⟨D0V k,fz⟩) Tryz.func48 1 (by kernel_rfl) (fun s=>rfl) (fun k=>C3o (A0K k)) (fc ⟨fun s=>rfl,fz⟩) (fun k s0=> .cons (by kernel_rfl) (by kernel_rfl) (fun s r h=>(E5N (A0K k) (R0 k) s0 s).trans (F2N k s.1.1 s.1.2.1 r h)) (.nil)) (F:=fun k s=>G1 k s.1.1) (fun k s r h=>(e48 (A0K k) (R0 k) s).trans (b48 k s.1.1 r h)) k
noncomputable abbrev A4W (k:Nat) (x0:(List Int)) (x4:Int) (x3:(List Int)):Option R2:=All.galoisref01_pack.l0 k x0 x3 x4
noncomputable abbrev A4T (k:Nat) (x0:(List Int)) (x4:Int) (x5:Int) (x3:(List Int)):Option R2:=All.galoisref01_pack.l1 k x0 x3 x4 x5
theorem F0v (k:Nat) (x0:(List Int)) (x4:Int) (x3:(List Int)):A0 (All.galoisref01_pack.l0 (k+1) x0 x3 x4) (C3l (A4T k) x0 x4 x3):=by rw [All.galoisref01_pack.l0];unfold C3l;(try simp only [A4W,A4T,All.integer_zero.f,All.exact_stepAt.f,All.S24.f0,All.S24.f1,All.rd_T24,All.z24]);exact BR
theorem E5M (k:Nat) (x0:(List Int)) (x4:Int) (x5:Int) (x3:(List Int)):A0 (All.galoisref01_pack.l1 (k+1) x0 x3 x4 x5) (C0p (A4W k) (A4T k) x0 x4 x5 x3):=by rw [All.galoisref01_pack.l1];unfold C0p;(try simp only [A4W,A4T,All.integer_zero.f,All.exact_stepAt.f,All.S24.f0,All.S24.f1,All.rd_T24,All.z24]);exact BR
theorem E1B (k:Nat) (x0:(List Int)):A0 (I9 k x0) (C1l (A4W k) x0):=by
 show A0 (All.galoisref01_pack.f k x0) _
 unfold All.galoisref01_pack.f;unfold C1l;(try simp only [A4W,A4T,All.integer_zero.f,All.exact_stepAt.f,All.S24.f0,All.S24.f1,All.rd_T24,All.z24]);exact BR
theorem B2f (k:Nat):B5 Tryz.prog (B1u (I9 k)):=
 B9 C0 HM A6q (es:=fun k=>[]) (fun k=>fz) Tryz.func221 2 (by kernel_rfl) (fun s=>rfl) (fun k=>B7T (A4W k) (A4T k)) (fc ⟨fun s=>rfl,fc ⟨fun s=>rfl,fz⟩⟩) (fun k s0=> .cons (by kernel_rfl) (by kernel_rfl) (fun s r h=>(E2D (A4W k) (A4T k) s0 s).trans (F0v k s.1.1 s.1.2.1 s.2.1 r h)) (.cons (by kernel_rfl) (by kernel_rfl) (fun s r h=>(F3n (A4W k) (A4T k) s0 s).trans (E5M k s.1.1 s.1.2.1 s.1.2.2.1 s.2.1 r h)) (.nil))) (F:=fun k s=>I9 k s.1.1) (fun k s r h=>(F2F (A4W k) (A4T k) s).trans (E1B k s.1.1 r h)) k
theorem E8g (k:Nat) (x0:Int):A0 (A7K k x0) (C2s (I9 k) x0):=by
 show A0 (All.galoisref01_Of.f k x0) _
 unfold All.galoisref01_Of.f;unfold C2s;(try simp only [I9,All.integer_zero.f,All.exact_stepAt.f,All.S24.f0,All.S24.f1,All.rd_T24,All.z24]);exact BR
theorem E6g (k:Nat):B5 Tryz.prog (D2S (A7K k)):=
 B9 C0 HM B5p (es:=fun k=>D0I (I9 k)) (fun k=>fc ⟨B2f k,fz⟩) Tryz.func183 0 (by kernel_rfl) (fun s=>rfl) (fun k=>[]) (fz) (fun k s0=> .nil) (F:=fun k s=>A7K k s.1.1) (fun k s r h=>(E8F (I9 k) s).trans (E8g k s.1.1 r h)) k
theorem F4s (k:Nat) (x0:Int):A0 (A6M k x0) (C9V (A7K k) x0):=by
 show A0 (All.galoisref02_FromInt.f k x0) _
 unfold All.galoisref02_FromInt.f;unfold C9V;(try simp only [A7K,All.integer_zero.f,All.exact_stepAt.f,All.S24.f0,All.S24.f1,All.rd_T24,All.z24]);exact BR
theorem F4u (k:Nat):B5 Tryz.prog (D0O (A6M k)):=
 B9 C0 HM B9W (es:=fun k=>D5O (A7K k)) (fun k=>fc ⟨E6g k,fz⟩) Tryz.func141 0 (by kernel_rfl) (fun s=>rfl) (fun k=>[]) (fz) (fun k s0=> .nil) (F:=fun k s=>A6M k s.1.1) (fun k s r h=>(F5k (A7K k) s).trans (F4s k s.1.1 r h)) k
theorem b81 (k:Nat) (x0:Int):A0 (F4 k x0) (B81 (A6M k) x0):=A0.refl _
theorem A8Q (k:Nat):B5 Tryz.prog (A5t (F4 k)):=
 B9 C0 HM D81 (es:=fun k=>D3X (A6M k)) (fun k=>fc ⟨F4u k,fz⟩) Tryz.func81 0 (by kernel_rfl) (fun s=>rfl) (fun k=>[]) (fz) (fun k s0=> .nil) (F:=fun k s=>F4 k s.1.1) (fun k s r h=>(e81 (A6M k) s).trans (b81 k s.1.1 r h)) k
theorem F5V (k:Nat) (x6:(List Int)) (x7:Int) (x8:Int) (x3:TP):A0 (A5E (k+1) x6 x7 x8 x3) (C8G (A5E k) (G1 k) (F4 k) x6 x7 x8 x3):=by rw [A5E];exact A0.refl _
theorem b22 (k:Nat) (x0:(List Int)):A0 (A8S k x0) (B22 (A5E k) x0):=A0.refl _
theorem F2g (k:Nat):B5 Tryz.prog (D6R (A8S k)):=
 B9 C0 HM D22 (es:=fun k=>C8E (G1 k) (F4 k)) (fun k=>fc ⟨B1D k,fc ⟨A8Q k,fz⟩⟩) Tryz.func22 1 (by kernel_rfl) (fun s=>rfl) (fun k=>C3M (A5E k)) (fc ⟨fun s=>rfl,fz⟩) (fun k s0=> .cons (by kernel_rfl) (by kernel_rfl) (fun s r h=>(E4G (A5E k) (G1 k) (F4 k) s0 s).trans (F5V k s.1.1 s.1.2.1 s.1.2.2.1 s.2.1 r h)) (.nil)) (F:=fun k s=>A8S k s.1.1) (fun k s r h=>(e22 (A5E k) (G1 k) (F4 k) s).trans (b22 k s.1.1 r h)) k
theorem F2y (k:Nat) (x11:TP) (x12:Int) (x13:Int) (x3:TQ) (x5:TP):A0 (A4P (k+1) x11 x12 x13 x3 x5) (C9N (A4P k) (E9 k) (F8 k) x11 x12 x13 x3 x5):=by rw [A4P];exact A0.refl _
theorem F0U (k:Nat) (x0:TP) (x1:TQ):A0 (A6o k x0 x1) (C5a (A4P k) x0 x1):=A0.refl _
theorem E3X (k:Nat):B5 Tryz.prog (D8N (A6o k)):=
 B9 C0 HM B0Z (es:=fun k=>C9s (E9 k) (F8 k)) (fun k=>fc ⟨A7M k,fc ⟨B3Z k,fz⟩⟩) Tryz.func137 1 (by kernel_rfl) (fun s=>rfl) (fun k=>C6Z (A4P k)) (fc ⟨fun s=>rfl,fz⟩) (fun k s0=> .cons (by kernel_rfl) (by kernel_rfl) (fun s r h=>(D9q (A4P k) (E9 k) (F8 k) s0 s).trans (F2y k s.1.1 s.1.2.1 s.1.2.2.1 s.2.1 s.2.2.1 r h)) (.nil)) (F:=fun k s=>A6o k s.1.1 s.1.2.1) (fun k s r h=>(E6x (A4P k) (E9 k) (F8 k) s).trans (F0U k s.1.1 s.1.2.1 r h)) k
theorem F3w (k:Nat) (x0:TP) (x1:TP) (x14:Int) (x15:Int) (x5:TP):A0 (A5I (k+1) x0 x1 x14 x15 x5) (C4z (A5I k) (N4 k) (E9 k) (o5 k) x0 x1 x14 x15 x5):=by rw [A5I];exact A0.refl _
theorem F2W (k:Nat) (x0:TP) (x1:TP):A0 (z7 k x0 x1) (C8v (A5I k) x0 x1):=A0.refl _
theorem D6k (k:Nat):B5 Tryz.prog (C0W (z7 k)):=
 B9 C0 HM B1L (es:=fun k=>C1i (N4 k) (E9 k) (o5 k)) (fun k=>fc ⟨C1r k,fc ⟨A7M k,fc ⟨D2F k,fz⟩⟩⟩) Tryz.func166 1 (by kernel_rfl) (fun s=>rfl) (fun k=>C9q (A5I k)) (fc ⟨fun s=>rfl,fz⟩) (fun k s0=> .cons (by kernel_rfl) (by kernel_rfl) (fun s r h=>(F2h (A5I k) (N4 k) (E9 k) (o5 k) s0 s).trans (F3w k s.1.1 s.1.2.1 s.1.2.2.1 s.1.2.2.2.1 s.2.1 r h)) (.nil)) (F:=fun k s=>z7 k s.1.1 s.1.2.1) (fun k s r h=>(F2a (A5I k) (N4 k) (E9 k) (o5 k) s).trans (F2W k s.1.1 s.1.2.1 r h)) k
theorem F0N (k:Nat) (x0:TP) (x6:TP) (x7:TP) (x8:TP) (x9:TP):A0 (A4i (k+1) x0 x6 x7 x8 x9) (C1b (A4i k) (M2 k) (A6o k) (W8 k) (P9 k) (O1 k) (z7 k) x0 x6 x7 x8 x9):=by rw [A4i];exact A0.refl _
theorem F1f (k:Nat) (x0:TP) (x1:TP):A0 (A2T k x0 x1) (C9M (A4i k) (M0 k) (O1 k) x0 x1):=A0.refl _
theorem D7T (k:Nat):B5 Tryz.prog (C7M (A2T k)):=
 B9 C0 HM B1n (es:=fun k=>C1Q (M0 k) (M2 k) (A6o k) (W8 k) (P9 k) (O1 k) (z7 k)) (fun k=>fc ⟨B5z k,fc ⟨B8M k,fc ⟨E3X k,fc ⟨C0z k,fc ⟨C4B k,fc ⟨C5c k,fc ⟨D6k k,fz⟩⟩⟩⟩⟩⟩⟩) Tryz.func106 1 (by kernel_rfl) (fun s=>rfl) (fun k=>C5T (A4i k)) (fc ⟨fun s=>rfl,fz⟩) (fun k s0=> .cons (by kernel_rfl) (by kernel_rfl) (fun s r h=>(E3A (A4i k) (M0 k) (M2 k) (A6o k) (W8 k) (P9 k) (O1 k) (z7 k) s0 s).trans (F0N k s.1.1 s.1.2.1 s.1.2.2.1 s.1.2.2.2.1 s.1.2.2.2.2.1 r h)) (.nil)) (F:=fun k s=>A2T k s.1.1 s.1.2.1) (fun k s r h=>(E7w (A4i k) (M0 k) (M2 k) (A6o k) (W8 k) (P9 k) (O1 k) (z7 k) s).trans (F1f k s.1.1 s.1.2.1 r h)) k
theorem E4i (k:Nat) (x0:TF) (x3:Int):A0 (A0L (k+1) x0 x3) (A8P (A0L k) x0 x3):=by rw [A0L];exact A0.refl _
theorem E9E (k:Nat) (x0:TF):A0 (F7 k x0) (B3O (A0L k) x0):=A0.refl _
theorem B3i (k:Nat):B5 Tryz.prog (B0l (F7 k)):=
 B9 C0 HM A9o (es:=fun k=>[]) (fun k=>fz) Tryz.func122 1 (by kernel_rfl) (fun s=>rfl) (fun k=>C3O (A0L k)) (fc ⟨fun s=>rfl,fz⟩) (fun k s0=> .cons (by kernel_rfl) (by kernel_rfl) (fun s r h=>(E0O (A0L k) s0 s).trans (E4i k s.1.1 s.1.2.1 r h)) (.nil)) (F:=fun k s=>F7 k s.1.1) (fun k s r h=>(F5B (A0L k) s).trans (E9E k s.1.1 r h)) k
theorem F6e (k:Nat) (x2:TF) (x3:TP) (x11:Int) (x13:Int) (x4:TP) (x10:TF) (x12:TF):A0 (A1Z (k+1) x2 x3 x11 x13 x4 x10 x12) (C2V (A1Z k) (A3b k) (F7 k) (Q8 k) x2 x3 x11 x13 x4 x10 x12):=by rw [A1Z];exact A0.refl _
theorem F2T (k:Nat) (x2:TF) (x3:TP) (x11:Int) (x13:Int) (x14:TP) (x60:Int) (x61:Int) (x4:TP) (x10:TF) (x12:TF):A0 (A3b (k+1) x2 x3 x11 x13 x14 x60 x61 x4 x10 x12) (C9g (A1Z k) (A3b k) (Q8 k) (z7 k) x2 x3 x11 x13 x14 x60 x61 x4 x10 x12):=by rw [A3b];exact A0.refl _
theorem F4b (k:Nat) (x0:TP) (x1:TF) (x2:TF) (x3:TP):A0 (A1Y k x0 x1 x2 x3) (C5V (A1Z k) (F7 k) x0 x1 x2 x3):=A0.refl _
theorem D1a (k:Nat):B5 Tryz.prog (C3q (A1Y k)):=
 B9 C0 HM A5g (es:=fun k=>B7H (F7 k) (Q8 k) (z7 k)) (fun k=>fc ⟨B3i k,fc ⟨C2m k,fc ⟨D6k k,fz⟩⟩⟩) Tryz.func107 2 (by kernel_rfl) (fun s=>rfl) (fun k=>B5G (A1Z k) (A3b k)) (fc ⟨fun s=>rfl,fc ⟨fun s=>rfl,fz⟩⟩) (fun k s0=> .cons (by kernel_rfl) (by kernel_rfl) (fun s r h=>(F4x (A1Z k) (A3b k) (F7 k) (Q8 k) (z7 k) s0 s).trans (F6e k s.1.1 s.1.2.1 s.1.2.2.1 s.1.2.2.2.1 s.2.1 s.2.2.1 s.2.2.2.1 r h)) (.cons (by kernel_rfl) (by kernel_rfl) (fun s r h=>(E4D (A1Z k) (A3b k) (F7 k) (Q8 k) (z7 k) s0 s).trans (F2T k s.1.1 s.1.2.1 s.1.2.2.1 s.1.2.2.2.1 s.1.2.2.2.2.1 s.1.2.2.2.2.2.1 s.1.2.2.2.2.2.2.1 s.2.1 s.2.2.1 s.2.2.2.1 r h)) (.nil))) (F:=fun k s=>A1Y k s.1.1 s.1.2.1 s.1.2.2.1 s.1.2.2.2.1) (fun k s r h=>(D9G (A1Z k) (A3b k) (F7 k) (Q8 k) (z7 k) s).trans (F4b k s.1.1 s.1.2.1 s.1.2.2.1 s.1.2.2.2.1 r h)) k
theorem F6M (k:Nat) (x0:TP):A0 (A0I k x0) (C7a (A1a k) x0):=A0.refl _
theorem E9C (k:Nat):B5 Tryz.prog (D6p (A0I k)):=
 B9 C0 HM B9r (es:=fun k=>D1r (A1a k)) (fun k=>fc ⟨D7L k,fz⟩) Tryz.func176 0 (by kernel_rfl) (fun s=>rfl) (fun k=>[]) (fz) (fun k s0=> .nil) (F:=fun k s=>A0I k s.1.1) (fun k s r h=>(F4R (A1a k) s).trans (F6M k s.1.1 r h)) k
theorem E2E (k:Nat) (x0:TF) (x7:Int) (x8:Int):A0 (i6 (k+1) x0 x7 x8) (A2j (i6 k) (A0I k) x0 x7 x8):=by rw [i6];exact A0.refl _
theorem E6u (k:Nat) (x0:TF):A0 (A5O k x0) (A9E (i6 k) x0):=A0.refl _
theorem E9I (k:Nat):B5 Tryz.prog (D6T (A5O k)):=
 B9 C0 HM A9K (es:=fun k=>C5x (A0I k)) (fun k=>fc ⟨E9C k,fz⟩) Tryz.func216 1 (by kernel_rfl) (fun s=>rfl) (fun k=>C4d (i6 k)) (fc ⟨fun s=>rfl,fz⟩) (fun k s0=> .cons (by kernel_rfl) (by kernel_rfl) (fun s r h=>(F6G (i6 k) (A0I k) s0 s).trans (E2E k s.1.1 s.1.2.1 s.1.2.2.1 r h)) (.nil)) (F:=fun k s=>A5O k s.1.1) (fun k s r h=>(F6a (i6 k) (A0I k) s).trans (E6u k s.1.1 r h)) k
theorem F0F (k:Nat) (x0:TF):A0 (A7X k x0) (C4g (A5O k) x0):=A0.refl _
theorem E0z (k:Nat):B5 Tryz.prog (D7j (A7X k)):=
 B9 C0 HM B9d (es:=fun k=>D1x (A5O k)) (fun k=>fc ⟨E9I k,fz⟩) Tryz.func175 0 (by kernel_rfl) (fun s=>rfl) (fun k=>[]) (fz) (fun k s0=> .nil) (F:=fun k s=>A7X k s.1.1) (fun k s r h=>(E2U (A5O k) s).trans (F0F k s.1.1 r h)) k
theorem F4z (k:Nat) (x0:TF):A0 (j5 k x0) (C1y (A7X k) x0):=A0.refl _
theorem D7k (k:Nat):B5 Tryz.prog (C3J (j5 k)):=
 B9 C0 HM B8k (es:=fun k=>D5X (A7X k)) (fun k=>fc ⟨E0z k,fz⟩) Tryz.func128 0 (by kernel_rfl) (fun s=>rfl) (fun k=>[]) (fz) (fun k s0=> .nil) (F:=fun k s=>j5 k s.1.1) (fun k s r h=>(F1a (A7X k) s).trans (F4z k s.1.1 r h)) k
theorem E1U (k:Nat) (x0:TF):A0 (R3 k x0) (B4n (j5 k) x0):=A0.refl _
theorem B8y (k:Nat):B5 Tryz.prog (B3F (R3 k)):=
 B9 C0 HM B7v (es:=fun k=>D1S (j5 k)) (fun k=>fc ⟨D7k k,fz⟩) Tryz.func108 0 (by kernel_rfl) (fun s=>rfl) (fun k=>[]) (fz) (fun k s0=> .nil) (F:=fun k s=>R3 k s.1.1) (fun k s r h=>(E8j (j5 k) s).trans (E1U k s.1.1 r h)) k
theorem b28 (k:Nat) (x0:TP) (x1:TF) (x2:TF):A0 (A8K k x0 x1 x2) (B28 (J8 k) (A2T k) (A1Y k) (R3 k) x0 x1 x2):=A0.refl _
theorem F0y (k:Nat):B5 Tryz.prog (D3k (A8K k)):=
 B9 C0 HM D28 (es:=fun k=>D5T (J8 k) (A2T k) (A1Y k) (R3 k)) (fun k=>fc ⟨B1f k,fc ⟨D7T k,fc ⟨D1a k,fc ⟨B8y k,fz⟩⟩⟩⟩) Tryz.func28 0 (by kernel_rfl) (fun s=>rfl) (fun k=>[]) (fz) (fun k s0=> .nil) (F:=fun k s=>A8K k s.1.1 s.1.2.1 s.1.2.2.1) (fun k s r h=>(e28 (J8 k) (A2T k) (A1Y k) (R3 k) s).trans (b28 k s.1.1 s.1.2.1 s.1.2.2.1 r h)) k
theorem E3Y (k:Nat) (x0:TF) (x1:TF) (x12:Int) (x13:Int):A0 (A0N (k+1) x0 x1 x12 x13) (A8F (A0N k) (W4 k) x0 x1 x12 x13):=by rw [A0N];exact A0.refl _
theorem b29 (k:Nat) (x0:TF) (x1:TF):A0 (z5 k x0 x1) (B29 (A0N k) x0 x1):=A0.refl _
theorem D7s (k:Nat):B5 Tryz.prog (C5s (z5 k)):=
 B9 C0 HM D29 (es:=fun k=>C2q (W4 k)) (fun k=>fc ⟨C5G k,fz⟩) Tryz.func29 1 (by kernel_rfl) (fun s=>rfl) (fun k=>C1P (A0N k)) (fc ⟨fun s=>rfl,fz⟩) (fun k s0=> .cons (by kernel_rfl) (by kernel_rfl) (fun s r h=>(E6k (A0N k) (W4 k) s0 s).trans (E3Y k s.1.1 s.1.2.1 s.1.2.2.1 s.1.2.2.2.1 r h)) (.nil)) (F:=fun k s=>z5 k s.1.1 s.1.2.1) (fun k s r h=>(e29 (A0N k) (W4 k) s).trans (b29 k s.1.1 s.1.2.1 r h)) k
theorem E9U (k:Nat) (x2:TP) (x13:TF) (x14:Int) (x15:Int) (x3:TP) (x7:TF):A0 (A5D (k+1) x2 x13 x14 x15 x3 x7) (C6Y (A5D k) (F7 k) (Q8 k) x2 x13 x14 x15 x3 x7):=by rw [A5D];exact A0.refl _
theorem E2o (k:Nat) (x0:TP) (x1:TF) (x2:TP):A0 (A7O k x0 x1 x2) (C0o (A5D k) x0 x1 x2):=A0.refl _
theorem F2G (k:Nat):B5 Tryz.prog (D0w (A7O k)):=
 B9 C0 HM B1V (es:=fun k=>C0n (F7 k) (Q8 k)) (fun k=>fc ⟨B3i k,fc ⟨C2m k,fz⟩⟩) Tryz.func131 1 (by kernel_rfl) (fun s=>rfl) (fun k=>C9R (A5D k)) (fc ⟨fun s=>rfl,fz⟩) (fun k s0=> .cons (by kernel_rfl) (by kernel_rfl) (fun s r h=>(E4z (A5D k) (F7 k) (Q8 k) s0 s).trans (E9U k s.1.1 s.1.2.1 s.1.2.2.1 s.1.2.2.2.1 s.2.1 s.2.2.1 r h)) (.nil)) (F:=fun k s=>A7O k s.1.1 s.1.2.1 s.1.2.2.1) (fun k s r h=>(E3N (A5D k) (F7 k) (Q8 k) s).trans (E2o k s.1.1 s.1.2.1 s.1.2.2.1 r h)) k
theorem E5u (k:Nat) (x0:TP) (x1:TF):A0 (A6i k x0 x1) (C3I (A2T k) (A7O k) x0 x1):=A0.refl _
theorem E4g (k:Nat):B5 Tryz.prog (D2V (A6i k)):=
 B9 C0 HM C0F (es:=fun k=>D1j (A2T k) (A7O k)) (fun k=>fc ⟨D7T k,fc ⟨F2G k,fz⟩⟩) Tryz.func110 0 (by kernel_rfl) (fun s=>rfl) (fun k=>[]) (fz) (fun k s0=> .nil) (F:=fun k s=>A6i k s.1.1 s.1.2.1) (fun k s r h=>(F0b (A2T k) (A7O k) s).trans (E5u k s.1.1 s.1.2.1 r h)) k
theorem F6F (k:Nat) (x0:TF):A0 (A8v k x0) (C0r x0):=A0.refl _
theorem E1Q (k:Nat):B5 Tryz.prog (D6v (A8v k)):=
 B9 C0 HM B7I (es:=fun k=>[]) (fun k=>fz) Tryz.func112 0 (by kernel_rfl) (fun s=>rfl) (fun k=>[]) (fz) (fun k s0=> .nil) (F:=fun k s=>A8v k s.1.1) (fun k s r h=>(F0n s).trans (F6F k s.1.1 r h)) k
theorem E9Y (k:Nat) (x0:(TF×Unit)):A0 (A6F k x0) (C6O (R3 k) (A8v k) x0):=A0.refl _
theorem F2o (k:Nat):B5 Tryz.prog (D7F (A6F k)):=
 B9 C0 HM B5y (es:=fun k=>D6r (R3 k) (A8v k)) (fun k=>fc ⟨B8y k,fc ⟨E1Q k,fz⟩⟩) Tryz.func111 0 (by kernel_rfl) (fun s=>rfl) (fun k=>[]) (fz) (fun k s0=> .nil) (F:=fun k s=>A6F k s.1.1) (fun k s r h=>(E4U (R3 k) (A8v k) s).trans (E9Y k s.1.1 r h)) k
theorem E7Q (k:Nat) (x3:TP) (x9:(TF×TF)):A0 (A5U (k+1) x3 x9) (C1e (A5U k) (M0 k) (A1Y k) (A6i k) (A6F k) x3 x9):=by rw [A5U];exact A0.refl _
theorem b31 (k:Nat) (x0:TP) (x1:TF) (x2:TF):A0 (A8E k x0 x1 x2) (B31 (A5U k) (J8 k) x0 x1 x2):=A0.refl _
theorem E5j (k:Nat):B5 Tryz.prog (D8q (A8E k)):=
 B9 C0 HM D31 (es:=fun k=>C0l (J8 k) (M0 k) (A1Y k) (A6i k) (A6F k)) (fun k=>fc ⟨B1f k,fc ⟨B5z k,fc ⟨D1a k,fc ⟨E4g k,fc ⟨F2o k,fz⟩⟩⟩⟩⟩) Tryz.func31 1 (by kernel_rfl) (fun s=>rfl) (fun k=>C3Y (A5U k)) (fc ⟨fun s=>rfl,fz⟩) (fun k s0=> .cons (by kernel_rfl) (by kernel_rfl) (fun s r h=>(E8N (A5U k) (J8 k) (M0 k) (A1Y k) (A6i k) (A6F k) s0 s).trans (E7Q k s.2.1 s.2.2.1 r h)) (.nil)) (F:=fun k s=>A8E k s.1.1 s.1.2.1 s.1.2.2.1) (fun k s r h=>(e31 (A5U k) (J8 k) (M0 k) (A1Y k) (A6i k) (A6F k) s).trans (b31 k s.1.1 s.1.2.1 s.1.2.2.1 r h)) k
theorem E8a (k:Nat) (x0:TF) (x1:Int):A0 (A2k k x0 x1) (B3N x0 x1):=A0.refl _
theorem F6U (k:Nat):B5 Tryz.prog (D4J (A2k k)):=
 B9 C0 HM B6b (es:=fun k=>[]) (fun k=>fz) Tryz.func174 0 (by kernel_rfl) (fun s=>rfl) (fun k=>[]) (fz) (fun k s0=> .nil) (F:=fun k s=>A2k k s.1.1 s.1.2.1) (fun k s r h=>(E0g s).trans (E8a k s.1.1 s.1.2.1 r h)) k
theorem E0K (k:Nat) (x0:TF) (x1:TF) (x14:Int) (x15:Int) (x5:TF):A0 (A0P (k+1) x0 x1 x14 x15 x5) (A7c (A0P k) (K0 k) (F7 k) (A2k k) x0 x1 x14 x15 x5):=by rw [A0P];exact A0.refl _
theorem F5R (k:Nat) (x0:TF) (x1:TF):A0 (A1h k x0 x1) (B4y (A0P k) x0 x1):=A0.refl _
theorem E8p (k:Nat):B5 Tryz.prog (D3A (A1h k)):=
 B9 C0 HM A9k (es:=fun k=>C4n (K0 k) (F7 k) (A2k k)) (fun k=>fc ⟨B6c k,fc ⟨B3i k,fc ⟨F6U k,fz⟩⟩⟩) Tryz.func126 1 (by kernel_rfl) (fun s=>rfl) (fun k=>C1A (A0P k)) (fc ⟨fun s=>rfl,fz⟩) (fun k s0=> .cons (by kernel_rfl) (by kernel_rfl) (fun s r h=>(E8G (A0P k) (K0 k) (F7 k) (A2k k) s0 s).trans (E0K k s.1.1 s.1.2.1 s.1.2.2.1 s.1.2.2.2.1 s.2.1 r h)) (.nil)) (F:=fun k s=>A1h k s.1.1 s.1.2.1) (fun k s r h=>(E8n (A0P k) (K0 k) (F7 k) (A2k k) s).trans (F5R k s.1.1 s.1.2.1 r h)) k
theorem E1L (k:Nat) (x2:TF) (x28:TF) (x29:Int) (x30:Int) (x3:TP) (x7:TF):A0 (t3 (k+1) x2 x28 x29 x30 x3 x7) (A9F (o6 k) (i5 k) x2 x28 x29 x30 x3 x7):=by rw [t3];exact A0.refl _
theorem F4X (k:Nat) (x2:TF) (x8:Int) (x9:TP) (x28:TF) (x29:Int) (x30:Int) (x35:TF) (x36:Int) (x37:Int) (x3:TP) (x7:TF):A0 (o6 (k+1) x2 x8 x9 x28 x29 x30 x35 x36 x37 x3 x7) (A7p (t3 k) (o6 k) (K0 k) (M2 k) x2 x8 x9 x28 x29 x30 x35 x36 x37 x3 x7):=by rw [o6];exact A0.refl _
theorem E0D (k:Nat) (x60:Int) (x61:Int) (x3:TP) (x7:TF):A0 (i5 (k+1) x60 x61 x3 x7) (A7P (i5 k) (F7 k) (O1 k) x60 x61 x3 x7):=by rw [i5];exact A0.refl _
theorem F2J (k:Nat) (x0:TP) (x1:TF) (x2:TF):A0 (m5 k x0 x1 x2) (B2Z (t3 k) x0 x1 x2):=A0.refl _
theorem D3E (k:Nat):B5 Tryz.prog (C3X (m5 k)):=
 B9 C0 HM A3Y (es:=fun k=>B2r (K0 k) (M2 k) (F7 k) (O1 k)) (fun k=>fc ⟨B6c k,fc ⟨B8M k,fc ⟨B3i k,fc ⟨C5c k,fz⟩⟩⟩⟩) Tryz.func127 3 (by kernel_rfl) (fun s=>rfl) (fun k=>B3P (t3 k) (o6 k) (i5 k)) (fc ⟨fun s=>rfl,fc ⟨fun s=>rfl,fc ⟨fun s=>rfl,fz⟩⟩⟩) (fun k s0=> .cons (by kernel_rfl) (by kernel_rfl) (fun s r h=>(E2r (t3 k) (o6 k) (i5 k) (K0 k) (M2 k) (F7 k) (O1 k) s0 s).trans (E1L k s.1.1 s.1.2.1 s.1.2.2.1 s.1.2.2.2.1 s.2.1 s.2.2.1 r h)) (.cons (by kernel_rfl) (by kernel_rfl) (fun s r h=>(E5X (t3 k) (o6 k) (i5 k) (K0 k) (M2 k) (F7 k) (O1 k) s0 s).trans (F4X k s.1.1 s.1.2.1 s.1.2.2.1 s.1.2.2.2.1 s.1.2.2.2.2.1 s.1.2.2.2.2.2.1 s.1.2.2.2.2.2.2.1 s.1.2.2.2.2.2.2.2.1 s.1.2.2.2.2.2.2.2.2.1 s.2.1 s.2.2.1 r h)) (.cons (by kernel_rfl) (by kernel_rfl) (fun s r h=>(F1w (t3 k) (o6 k) (i5 k) (K0 k) (M2 k) (F7 k) (O1 k) s0 s).trans (E0D k s.1.1 s.1.2.1 s.2.1 s.2.2.1 r h)) (.nil)))) (F:=fun k s=>m5 k s.1.1 s.1.2.1 s.1.2.2.1) (fun k s r h=>(F1q (t3 k) (o6 k) (i5 k) (K0 k) (M2 k) (F7 k) (O1 k) s).trans (F2J k s.1.1 s.1.2.1 s.1.2.2.1 r h)) k
theorem E9G (k:Nat) (x1:TF) (x2:TP) (x4:TF) (x5:TF) (x6:Int):A0 (A0i (k+1) x1 x2 x4 x5 x6) (A8H (A0i k) (F7 k) (A1h k) (m5 k) x1 x2 x4 x5 x6):=by rw [A0i];exact A0.refl _
theorem F3a (k:Nat) (x0:TP) (x1:TF) (x2:TP):A0 (A4D k x0 x1 x2) (B2W (A0i k) (M0 k) (F7 k) x0 x1 x2):=A0.refl _
theorem E9S (k:Nat):B5 Tryz.prog (D2r (A4D k)):=
 B9 C0 HM B2H (es:=fun k=>C1f (M0 k) (F7 k) (A1h k) (m5 k)) (fun k=>fc ⟨B5z k,fc ⟨B3i k,fc ⟨E8p k,fc ⟨D3E k,fz⟩⟩⟩⟩) Tryz.func125 1 (by kernel_rfl) (fun s=>rfl) (fun k=>C1E (A0i k)) (fc ⟨fun s=>rfl,fz⟩) (fun k s0=> .cons (by kernel_rfl) (by kernel_rfl) (fun s r h=>(F0G (A0i k) (M0 k) (F7 k) (A1h k) (m5 k) s0 s).trans (E9G k s.1.1 s.1.2.1 s.1.2.2.1 s.1.2.2.2.1 s.1.2.2.2.2.1 r h)) (.nil)) (F:=fun k s=>A4D k s.1.1 s.1.2.1 s.1.2.2.1) (fun k s r h=>(D9J (A0i k) (M0 k) (F7 k) (A1h k) (m5 k) s).trans (F3a k s.1.1 s.1.2.1 s.1.2.2.1 r h)) k
theorem F5z (k:Nat) (x0:(TP×TF×TP×Unit)):A0 (A4R k x0) (B4W (R3 k) (A4D k) x0):=A0.refl _
theorem E4q (k:Nat):B5 Tryz.prog (D5e (A4R k)):=
 B9 C0 HM B7P (es:=fun k=>D4P (R3 k) (A4D k)) (fun k=>fc ⟨B8y k,fc ⟨E9S k,fz⟩⟩) Tryz.func111 0 (by kernel_rfl) (fun s=>rfl) (fun k=>[]) (fz) (fun k s0=> .nil) (F:=fun k s=>A4R k s.1.1) (fun k s r h=>(E3T (R3 k) (A4D k) s).trans (F5z k s.1.1 r h)) k
theorem b50 (k:Nat) (x0:TP) (x1:TF) (x2:TP):A0 (A1C k x0 x1 x2) (B50 (J8 k) (A4R k) (V5 k) x0 x1 x2):=A0.refl _
theorem D3P (k:Nat):B5 Tryz.prog (C1X (A1C k)):=
 B9 C0 HM D50 (es:=fun k=>D6U (J8 k) (A4R k) (V5 k)) (fun k=>fc ⟨B1f k,fc ⟨E4q k,fc ⟨C7J k,fz⟩⟩⟩) Tryz.func50 0 (by kernel_rfl) (fun s=>rfl) (fun k=>[]) (fz) (fun k s0=> .nil) (F:=fun k s=>A1C k s.1.1 s.1.2.1 s.1.2.2.1) (fun k s r h=>(e50 (J8 k) (A4R k) (V5 k) s).trans (b50 k s.1.1 s.1.2.1 s.1.2.2.1 r h)) k
theorem b16 (k:Nat):A0 (A3G k) (B16 (A6x k) (W4 k) (A8S k) (A8K k) (z5 k) (A8E k) (A1C k)):=A0.refl _
theorem E3o (k:Nat):B5 Tryz.prog (D2K (A3G k)):=
 B9 C0 HM D16 (es:=fun k=>D8T (A6x k) (W4 k) (A8S k) (A8K k) (z5 k) (A8E k) (A1C k)) (fun k=>fc ⟨F6d k,fc ⟨C5G k,fc ⟨F2g k,fc ⟨F0y k,fc ⟨D7s k,fc ⟨E5j k,fc ⟨D3P k,fz⟩⟩⟩⟩⟩⟩⟩) Tryz.func16 0 (by kernel_rfl) (fun s=>rfl) (fun k=>[]) (fz) (fun k s0=> .nil) (F:=fun k s=>A3G k) (fun k s r h=>(e16 (A6x k) (W4 k) (A8S k) (A8K k) (z5 k) (A8E k) (A1C k) s).trans (b16 k r h)) k
theorem E7j (k:Nat) (x0:TI):A0 (b6 k x0) (A4f x0):=A0.refl _
theorem D3W (k:Nat):B5 Tryz.prog (C7g (b6 k)):=
 B9 C0 HM B5b (es:=fun k=>[]) (fun k=>fz) Tryz.func159 0 (by kernel_rfl) (fun s=>rfl) (fun k=>[]) (fz) (fun k s0=> .nil) (F:=fun k s=>b6 k s.1.1) (fun k s r h=>(F5v s).trans (E7j k s.1.1 r h)) k
theorem F1s (k:Nat) (x0:Bool) (x1:ByteArray):A0 (l5 k x0 x1) (C7i x0 x1):=by
 show A0 (All.galoisref02_Make.f x0 x1) _
 unfold All.galoisref02_Make.f;unfold C7i;(try simp only [All.integer_zero.f,All.exact_stepAt.f,All.S24.f0,All.S24.f1,All.rd_T24,All.z24]);exact BR
theorem C6n (k:Nat):B5 Tryz.prog (B5L (l5 k)):=
 B9 C0 HM B5R (es:=fun k=>[]) (fun k=>fz) Tryz.func198 0 (by kernel_rfl) (fun s=>rfl) (fun k=>[]) (fz) (fun k s0=> .nil) (F:=fun k s=>l5 k s.1.1 s.1.2.1) (fun k s r h=>(E3j s).trans (F1s k s.1.1 s.1.2.1 r h)) k
theorem D2u (k:Nat):B5 Tryz.prog (C5A (a9 k)):=
 B9 C0 HM B1l (es:=fun k=>[]) (fun k=>fz) Tryz.func249 1 (by kernel_rfl) (fun s=>rfl) (fun k=>C8n (A5h k)) (fc ⟨fun s=>by show ite _ _ _=none;split<;>rfl,fz⟩) (fun k s0=> .cons (by kernel_rfl) (by kernel_rfl) (fun s r h=>(E0U (A5h k) s0 s).trans (D8z k s.1.1 s.2.1 r h)) (.nil)) (F:=fun k s=>a9 k s.2.1) (fun k s r h=>(E6p (A5h k) s).trans (E3x k s.2.1 r h)) k
noncomputable abbrev A4F (k:Nat) (x0:ByteArray) (x4:Int) (x3:(List Int)):Option U7:=All.galoisref01_limbs.l0 k x0 x3 x4
noncomputable abbrev A4o (k:Nat) (x0:ByteArray) (x4:Int) (x5:Int) (x6:Int) (x3:(List Int)):Option U7:=All.galoisref01_limbs.l1 k x0 x3 x4 x5 x6
theorem E0x (k:Nat) (x0:ByteArray) (x4:Int) (x3:(List Int)):A0 (All.galoisref01_limbs.l0 (k+1) x0 x3 x4) (C9b (A4o k) (a9 k) x0 x4 x3):=by rw [All.galoisref01_limbs.l0];unfold C9b;(try simp only [A4F,A4o,a9,All.integer_zero.f,All.exact_stepAt.f,All.S24.f0,All.S24.f1,All.rd_T24,All.z24]);exact BR
theorem E5C (k:Nat) (x0:ByteArray) (x4:Int) (x5:Int) (x6:Int) (x3:(List Int)):A0 (All.galoisref01_limbs.l1 (k+1) x0 x3 x4 x5 x6) (C6z (A4F k) (A4o k) x0 x4 x5 x6 x3):=by rw [All.galoisref01_limbs.l1];unfold C6z;(try simp only [A4F,A4o,a9,All.integer_zero.f,All.exact_stepAt.f,All.S24.f0,All.S24.f1,All.rd_T24,All.z24]);exact BR
theorem F0e (k:Nat) (x0:ByteArray):A0 (K8 k x0) (C7n (A4F k) x0):=by
 show A0 (All.galoisref01_limbs.f k x0) _
 unfold All.galoisref01_limbs.f;unfold C7n;(try simp only [A4F,A4o,a9,All.integer_zero.f,All.exact_stepAt.f,All.S24.f0,All.S24.f1,All.rd_T24,All.z24]);exact BR
theorem B9s (k:Nat):B5 Tryz.prog (B3R (K8 k)):=
 B9 C0 HM A6L (es:=fun k=>B9b (a9 k)) (fun k=>fc ⟨D2u k,fz⟩) Tryz.func229 2 (by kernel_rfl) (fun s=>rfl) (fun k=>B6g (A4F k) (A4o k)) (fc ⟨fun s=>rfl,fc ⟨fun s=>rfl,fz⟩⟩) (fun k s0=> .cons (by kernel_rfl) (by kernel_rfl) (fun s r h=>(F0z (A4F k) (A4o k) (a9 k) s0 s).trans (E0x k s.1.1 s.1.2.1 s.2.1 r h)) (.cons (by kernel_rfl) (by kernel_rfl) (fun s r h=>(E8o (A4F k) (A4o k) (a9 k) s0 s).trans (E5C k s.1.1 s.1.2.1 s.1.2.2.1 s.1.2.2.2.1 s.2.1 r h)) (.nil))) (F:=fun k s=>K8 k s.1.1) (fun k s r h=>(E5G (A4F k) (A4o k) (a9 k) s).trans (F0e k s.1.1 r h)) k
noncomputable abbrev A7V (k:Nat) (x8:Int) (x9:Int) (x5:(List Int)) (x6:(List Int)) (x7:(List Int)):Option A2w:=All.galoisref01_Add.l0 k x5 x6 x7 x8 x9
theorem E9j (k:Nat) (x8:Int) (x9:Int) (x5:(List Int)) (x6:(List Int)) (x7:(List Int)):A0 (All.galoisref01_Add.l0 (k+1) x5 x6 x7 x8 x9) (C5k (A7V k) (I9 k) x8 x9 x5 x6 x7):=by
 rw [All.galoisref01_Add.l0]
 unfold C5k
 (try simp only [A7V,I9,K8,All.integer_zero.f,All.exact_stepAt.f,All.S24.f0,All.S24.f1,All.rd_T24,All.z24])
 (try simp only [F5,List.take_append_drop,List.drop_length,List.append_nil,Int.zero_sub,Int.toNat_natCast,Int.reduceToNat,Int.zero_add,List.take_zero,List.nil_append,List.append_assoc,List.length_set,X0,List.take_left,I3,bne,I0,decide_not,I4,if_true,if_false,Bool.false_eq_true,o4,v5,List.drop_zero,List.take_length,I2,G0,m7,C5,ite_not,Bool.and_eq_true,Bool.or_eq_true,Bool.not_eq_true',H7,Bool.not_eq_false',beq_iff_eq,decide_eq_true_eq,I5,H5,H6,ne_eq,H9,List.toList_toArray])
 repeat' first
 | (with_reducible refine A0.trans ((All.galoisref01_Add.mono_l k).2 _ _ _ _ _ _) ?_;rw [All.galoisref01_Add.j1];(try simp only [F5,if_true,if_false,decide_eq_true_eq,Bool.false_eq_true,decide_not,ite_not,bne,I0,beq_iff_eq,Bool.not_eq_true',H7,H9,List.toList_toArray,H5,H6,Bool.and_eq_true,Bool.or_eq_true,I5,I4,I2,All.integer_zero.f,G0,Int.toNat_natCast,Int.reduceToNat,Int.zero_sub,I3]))
 | (with_reducible exact A0.none _)
 | (with_reducible exact A0.refl _)
 | (with_reducible refine A0.posR (by with_reducible assumption) ?_)
 | (with_reducible refine A0.negR (by with_reducible assumption) ?_)
 | (with_reducible refine A0.bindR (by with_reducible assumption) ?_)
 | (with_reducible refine A0.posL (by with_reducible assumption) ?_)
 | (with_reducible refine A0.negL (by with_reducible assumption) ?_)
 | (with_reducible refine A0.iteL (fun _=>?_) (fun _=>?_))
 | (with_reducible refine A0.bindK (by with_reducible assumption) ?_)
 | (with_reducible refine A0.bindL (fun _ _=>?_))
 | (refine A0.posR (by first|decide|exact Int.le_refl _|omega|assumption) ?_)
 | (refine A0.negR (by first|decide|omega) ?_)
theorem F0p (k:Nat) (x0:ByteArray) (x1:ByteArray):A0 (A7k k x0 x1) (C3C (A7V k) (K8 k) x0 x1):=by
 show A0 (All.galoisref01_Add.f k x0 x1) _
 unfold All.galoisref01_Add.f
 unfold C3C
 (try simp only [A7V,I9,K8,All.integer_zero.f,All.exact_stepAt.f,All.S24.f0,All.S24.f1,All.rd_T24,All.z24])
 (try simp only [F5,List.take_append_drop,List.drop_length,List.append_nil,Int.zero_sub,Int.toNat_natCast,Int.reduceToNat,Int.zero_add,List.take_zero,List.nil_append,List.append_assoc,List.length_set,X0,List.take_left,I3,bne,I0,decide_not,I4,if_true,if_false,Bool.false_eq_true,o4,v5,List.drop_zero,List.take_length,I2,G0,m7,C5,ite_not,Bool.and_eq_true,Bool.or_eq_true,Bool.not_eq_true',H7,Bool.not_eq_false',beq_iff_eq,decide_eq_true_eq,I5,H5,H6,ne_eq,H9,List.toList_toArray])
 repeat' first
 | (with_reducible refine A0.trans ((All.galoisref01_Add.mono_l k).2 _ _ _ _ _ _) ?_;rw [All.galoisref01_Add.j1];(try simp only [F5,if_true,if_false,decide_eq_true_eq,Bool.false_eq_true,decide_not,ite_not,bne,I0,beq_iff_eq,Bool.not_eq_true',H7,H9,List.toList_toArray,H5,H6,Bool.and_eq_true,Bool.or_eq_true,I5,I4,I2,All.integer_zero.f,G0,Int.toNat_natCast,Int.reduceToNat,Int.zero_sub,I3]))
 | (with_reducible exact A0.none _)
 | (with_reducible exact A0.refl _)
 | (with_reducible refine A0.posR (by with_reducible assumption) ?_)
 | (with_reducible refine A0.negR (by with_reducible assumption) ?_)
 | (with_reducible refine A0.bindR (by with_reducible assumption) ?_)
 | (with_reducible refine A0.posL (by with_reducible assumption) ?_)
 | (with_reducible refine A0.negL (by with_reducible assumption) ?_)
 | (with_reducible refine A0.iteL (fun _=>?_) (fun _=>?_))
 | (with_reducible refine A0.bindK (by with_reducible assumption) ?_)
 | (with_reducible refine A0.bindL (fun _ _=>?_))
 | (refine A0.posR (by first|decide|exact Int.le_refl _|omega|assumption) ?_)
 | (refine A0.negR (by first|decide|omega) ?_)
theorem F4i (k:Nat):B5 Tryz.prog (D5p (A7k k)):=
 B9 C0 HM B1t (es:=fun k=>C2I (I9 k) (K8 k)) (fun k=>fc ⟨B2f k,fc ⟨B9s k,fz⟩⟩) Tryz.func199 1 (by kernel_rfl) (fun s=>rfl) (fun k=>C4j (A7V k)) (fc ⟨fun s=>rfl,fz⟩) (fun k s0=> .cons (by kernel_rfl) (by kernel_rfl) (fun s r h=>(D9z (A7V k) (I9 k) (K8 k) s0 s).trans (E9j k s.1.1 s.1.2.1 s.2.1 s.2.2.1 s.2.2.2.1 r h)) (.nil)) (F:=fun k s=>A7k k s.1.1 s.1.2.1) (fun k s r h=>(F3Y (A7V k) (I9 k) (K8 k) s).trans (F0p k s.1.1 s.1.2.1 r h)) k
theorem D9K (k:Nat) (x0:ByteArray) (x1:ByteArray):A0 (A0d k x0 x1) (C1V x0 x1):=by
 show A0 (All.galoisref01_Compare.f k x0 x1) _
 unfold All.galoisref01_Compare.f
 unfold C1V
 (try simp only [All.integer_zero.f,All.exact_stepAt.f,All.S24.f0,All.S24.f1,All.rd_T24,All.z24])
 (try simp only [F5,List.take_append_drop,List.drop_length,List.append_nil,Int.zero_sub,Int.toNat_natCast,Int.reduceToNat,Int.zero_add,List.take_zero,List.nil_append,List.append_assoc,List.length_set,X0,List.take_left,I3,bne,I0,decide_not,I4,if_true,if_false,Bool.false_eq_true,o4,v5,List.drop_zero,List.take_length,I2,G0,m7,C5,ite_not,Bool.and_eq_true,Bool.or_eq_true,Bool.not_eq_true',H7,Bool.not_eq_false',beq_iff_eq,decide_eq_true_eq,I5,H5,H6,ne_eq,H9,List.toList_toArray])
 repeat' first
 | (with_reducible refine A0.trans ((All.galoisref01_Compare.mono_l k) _ _ _) ?_;rw [All.galoisref01_Compare.j0];(try simp only [F5,if_true,if_false,decide_eq_true_eq,Bool.false_eq_true,decide_not,ite_not,bne,I0,beq_iff_eq,Bool.not_eq_true',H7,H9,List.toList_toArray,H5,H6,Bool.and_eq_true,Bool.or_eq_true,I5,I4,I2,All.integer_zero.f,G0,Int.toNat_natCast,Int.reduceToNat,Int.zero_sub,I3]))
 | (with_reducible exact A0.none _)
 | (with_reducible exact A0.refl _)
 | (with_reducible refine A0.posR (by with_reducible assumption) ?_)
 | (with_reducible refine A0.negR (by with_reducible assumption) ?_)
 | (with_reducible refine A0.bindR (by with_reducible assumption) ?_)
 | (with_reducible refine A0.posL (by with_reducible assumption) ?_)
 | (with_reducible refine A0.negL (by with_reducible assumption) ?_)
 | (with_reducible refine A0.iteL (fun _=>?_) (fun _=>?_))
 | (with_reducible refine A0.bindK (by with_reducible assumption) ?_)
 | (with_reducible refine A0.bindL (fun _ _=>?_))
 | (refine A0.posR (by first|decide|exact Int.le_refl _|omega|assumption) ?_)
 | (refine A0.negR (by first|decide|omega) ?_)
theorem D4a (k:Nat):B5 Tryz.prog (C5r (A0d k)):=
 B9 C0 HM B8D (es:=fun k=>[]) (fun k=>fz) Tryz.func200 0 (by kernel_rfl) (fun s=>rfl) (fun k=>[]) (fz) (fun k s0=> .nil) (F:=fun k s=>A0d k s.1.1 s.1.2.1) (fun k s r h=>(F2t s).trans (D9K k s.1.1 s.1.2.1 r h)) k
noncomputable abbrev A9B (k:Nat) (x7:Int) (x8:Int) (x5:(List Int)) (x6:(List Int)):Option A1y:=All.galoisref01_Sub.l0 k x5 x6 x7 x8
theorem F2j (k:Nat) (x7:Int) (x8:Int) (x5:(List Int)) (x6:(List Int)):A0 (All.galoisref01_Sub.l0 (k+1) x5 x6 x7 x8) (C0s (A9B k) (I9 k) x7 x8 x5 x6):=by rw [All.galoisref01_Sub.l0];unfold C0s;(try simp only [A9B,A0d,I9,K8,All.integer_zero.f,All.exact_stepAt.f,All.S24.f0,All.S24.f1,All.rd_T24,All.z24]);exact BR
theorem F5F (k:Nat) (x0:ByteArray) (x1:ByteArray):A0 (A7I k x0 x1) (C1s (A9B k) (A0d k) (K8 k) x0 x1):=by
 show A0 (All.galoisref01_Sub.f k x0 x1) _
 unfold All.galoisref01_Sub.f;unfold C1s;(try simp only [A9B,A0d,I9,K8,All.integer_zero.f,All.exact_stepAt.f,All.S24.f0,All.S24.f1,All.rd_T24,All.z24]);exact BR
theorem F4Q (k:Nat):B5 Tryz.prog (D8D (A7I k)):=
 B9 C0 HM B0Q (es:=fun k=>C6h (A0d k) (I9 k) (K8 k)) (fun k=>fc ⟨D4a k,fc ⟨B2f k,fc ⟨B9s k,fz⟩⟩⟩) Tryz.func201 1 (by kernel_rfl) (fun s=>rfl) (fun k=>C2o (A9B k)) (fc ⟨fun s=>rfl,fz⟩) (fun k s0=> .cons (by kernel_rfl) (by kernel_rfl) (fun s r h=>(E5F (A9B k) (A0d k) (I9 k) (K8 k) s0 s).trans (F2j k s.1.1 s.1.2.1 s.2.1 s.2.2.1 r h)) (.nil)) (F:=fun k s=>A7I k s.1.1 s.1.2.1) (fun k s r h=>(E6A (A9B k) (A0d k) (I9 k) (K8 k) s).trans (F5F k s.1.1 s.1.2.1 r h)) k
theorem F6C (k:Nat) (x0:TI) (x1:TI):A0 (A3d k x0 x1) (C7T (l5 k) (A7k k) (A0d k) (A7I k) x0 x1):=by
 show A0 (All.galoisref02_Add.f k x0.1 x0.2 x1.1 x1.2) _
 unfold All.galoisref02_Add.f;unfold C7T;(try simp only [l5,A7k,A0d,A7I,All.integer_zero.f,All.exact_stepAt.f,All.S24.f0,All.S24.f1,All.rd_T24,All.z24]);exact BR
theorem D9R (k:Nat):B5 Tryz.prog (D5Y (A3d k)):=
 B9 C0 HM B8U (es:=fun k=>D4s (l5 k) (A7k k) (A0d k) (A7I k)) (fun k=>fc ⟨C6n k,fc ⟨F4i k,fc ⟨D4a k,fc ⟨F4Q k,fz⟩⟩⟩⟩) Tryz.func160 0 (by kernel_rfl) (fun s=>rfl) (fun k=>[]) (fz) (fun k s0=> .nil) (F:=fun k s=>A3d k s.1.1 s.1.2.1) (fun k s r h=>(E6P (l5 k) (A7k k) (A0d k) (A7I k) s).trans (F6C k s.1.1 s.1.2.1 r h)) k
noncomputable abbrev A5V (k:Nat) (x8:Int) (x5:(List Int)) (x6:(List Int)) (x7:(List Int)):Option q7:=All.galoisref01_Mul.l0 k x5 x6 x7 x8
noncomputable abbrev A5C (k:Nat) (x8:Int) (x9:Int) (x10:Int) (x5:(List Int)) (x6:(List Int)) (x7:(List Int)):Option q7:=All.galoisref01_Mul.l1 k x5 x6 x7 x8 x9 x10
theorem F3r (k:Nat) (x8:Int) (x5:(List Int)) (x6:(List Int)) (x7:(List Int)):A0 (All.galoisref01_Mul.l0 (k+1) x5 x6 x7 x8) (C3g (A5C k) (I9 k) x8 x5 x6 x7):=by rw [All.galoisref01_Mul.l0];unfold C3g;(try simp only [A5V,A5C,I9,K8,All.integer_zero.f,All.exact_stepAt.f,All.S24.f0,All.S24.f1,All.rd_T24,All.z24]);exact BR
theorem F2e (k:Nat) (x8:Int) (x9:Int) (x10:Int) (x5:(List Int)) (x6:(List Int)) (x7:(List Int)):A0 (All.galoisref01_Mul.l1 (k+1) x5 x6 x7 x8 x9 x10) (C1u (A5V k) (A5C k) x8 x9 x10 x5 x6 x7):=by rw [All.galoisref01_Mul.l1];unfold C1u;(try simp only [A5V,A5C,I9,K8,All.integer_zero.f,All.exact_stepAt.f,All.S24.f0,All.S24.f1,All.rd_T24,All.z24]);exact BR
theorem E7R (k:Nat) (x0:ByteArray) (x1:ByteArray):A0 (A7r k x0 x1) (C5q (A5V k) (K8 k) x0 x1):=by
 show A0 (All.galoisref01_Mul.f k x0 x1) _
 unfold All.galoisref01_Mul.f;unfold C5q;(try simp only [A5V,A5C,I9,K8,All.integer_zero.f,All.exact_stepAt.f,All.S24.f0,All.S24.f1,All.rd_T24,All.z24]);exact BR
theorem E7G (k:Nat):B5 Tryz.prog (D5d (A7r k)):=
 B9 C0 HM A6n (es:=fun k=>B9v (I9 k) (K8 k)) (fun k=>fc ⟨B2f k,fc ⟨B9s k,fz⟩⟩) Tryz.func202 2 (by kernel_rfl) (fun s=>rfl) (fun k=>B7a (A5V k) (A5C k)) (fc ⟨fun s=>rfl,fc ⟨fun s=>rfl,fz⟩⟩) (fun k s0=> .cons (by kernel_rfl) (by kernel_rfl) (fun s r h=>(F5K (A5V k) (A5C k) (I9 k) (K8 k) s0 s).trans (F3r k s.1.1 s.2.1 s.2.2.1 s.2.2.2.1 r h)) (.cons (by kernel_rfl) (by kernel_rfl) (fun s r h=>(E6n (A5V k) (A5C k) (I9 k) (K8 k) s0 s).trans (F2e k s.1.1 s.1.2.1 s.1.2.2.1 s.2.1 s.2.2.1 s.2.2.2.1 r h)) (.nil))) (F:=fun k s=>A7r k s.1.1 s.1.2.1) (fun k s r h=>(F3G (A5V k) (A5C k) (I9 k) (K8 k) s).trans (E7R k s.1.1 s.1.2.1 r h)) k
theorem E1x (k:Nat) (x0:TI) (x1:TI):A0 (e9 k x0 x1) (C2Y (l5 k) (A7r k) x0 x1):=by
 show A0 (All.galoisref02_Mul.f k x0.1 x0.2 x1.1 x1.2) _
 unfold All.galoisref02_Mul.f;unfold C2Y;(try simp only [l5,A7r,All.integer_zero.f,All.exact_stepAt.f,All.S24.f0,All.S24.f1,All.rd_T24,All.z24]);exact BR
theorem D3N (k:Nat):B5 Tryz.prog (C1O (e9 k)):=
 B9 C0 HM B6Q (es:=fun k=>D2J (l5 k) (A7r k)) (fun k=>fc ⟨C6n k,fc ⟨E7G k,fz⟩⟩) Tryz.func161 0 (by kernel_rfl) (fun s=>rfl) (fun k=>[]) (fz) (fun k s0=> .nil) (F:=fun k s=>e9 k s.1.1 s.1.2.1) (fun k s r h=>(E0Y (l5 k) (A7r k) s).trans (E1x k s.1.1 s.1.2.1 r h)) k
theorem D9y (k:Nat) (x0:TQ):A0 (d5 k x0) (A5N x0):=A0.refl _
theorem D2N (k:Nat):B5 Tryz.prog (C9n (d5 k)):=
 B9 C0 HM B6Z (es:=fun k=>[]) (fun k=>fz) Tryz.func162 0 (by kernel_rfl) (fun s=>rfl) (fun k=>[]) (fz) (fun k s0=> .nil) (F:=fun k s=>d5 k s.1.1) (fun k s r h=>(F0u s).trans (D9y k s.1.1 r h)) k
theorem F5u (k:Nat):B5 Tryz.prog (D1K (v8 k)):=
 B9 C0 HM A9n (es:=fun k=>C4s (a9 k)) (fun k=>fc ⟨D2u k,fz⟩) Tryz.func230 1 (by kernel_rfl) (fun s=>rfl) (fun k=>C3T (A5q k)) (fc ⟨fun s=>by show ite _ _ _=none;split<;>rfl,fz⟩) (fun k s0=> .cons (by kernel_rfl) (by kernel_rfl) (fun s r h=>(E7d (A5q k) (a9 k) s0 s).trans (E2t k s.1.1 s.1.2.1 s.1.2.2.1 s.2.1 r h)) (.nil)) (F:=fun k s=>v8 k s.1.1 s.2.1) (fun k s r h=>(E8w (A5q k) (a9 k) s).trans (E4y k s.1.1 s.2.1 r h)) k
noncomputable abbrev A2Q (k:Nat) (x7:(List Int)) (x8:Int) (x11:Int) (x9:(List Int)) (x10:(List Int)):Option U5:=All.galoisref01_DivMod.l0 k x7 x8 x9 x10 x11
noncomputable abbrev A1w (k:Nat) (x7:(List Int)) (x8:Int) (x11:Int) (x9:(List Int)) (x10:(List Int)):Option U5:=All.galoisref01_DivMod.l1 k x7 x8 x9 x10 x11
noncomputable abbrev A3B (k:Nat) (x7:(List Int)) (x8:Int) (x11:Int) (x12:Int) (x13:Int) (x14:Int) (x9:(List Int)) (x10:(List Int)):Option U5:=All.galoisref01_DivMod.l2 k x7 x8 x9 x10 x11 x12 x13 x14
theorem F5l (k:Nat) (x7:(List Int)) (x8:Int) (x11:Int) (x9:(List Int)) (x10:(List Int)):A0 (All.galoisref01_DivMod.l0 (k+1) x7 x8 x9 x10 x11) (C3N (A1w k) (I9 k) x7 x8 x11 x9 x10):=by rw [All.galoisref01_DivMod.l0];unfold C3N;(try simp only [A2Q,A1w,A3B,I9,K8,v8,All.integer_zero.f,All.exact_stepAt.f,All.S24.f0,All.S24.f1,All.rd_T24,All.z24]);exact BR
theorem E5H (k:Nat) (x7:(List Int)) (x8:Int) (x11:Int) (x9:(List Int)) (x10:(List Int)):A0 (All.galoisref01_DivMod.l1 (k+1) x7 x8 x9 x10 x11) (C5C (A2Q k) (A3B k) (v8 k) x7 x8 x11 x9 x10):=by rw [All.galoisref01_DivMod.l1];unfold C5C;(try simp only [A2Q,A1w,A3B,I9,K8,v8,All.integer_zero.f,All.exact_stepAt.f,All.S24.f0,All.S24.f1,All.rd_T24,All.z24]);exact BR
theorem E3E (k:Nat) (x7:(List Int)) (x8:Int) (x11:Int) (x12:Int) (x13:Int) (x14:Int) (x9:(List Int)) (x10:(List Int)):A0 (All.galoisref01_DivMod.l2 (k+1) x7 x8 x9 x10 x11 x12 x13 x14) (C8A (A1w k) (A3B k) x7 x8 x11 x12 x13 x14 x9 x10):=by rw [All.galoisref01_DivMod.l2];unfold C8A;(try simp only [A2Q,A1w,A3B,I9,K8,v8,All.integer_zero.f,All.exact_stepAt.f,All.S24.f0,All.S24.f1,All.rd_T24,All.z24]);exact BR
theorem E7q (k:Nat) (x0:ByteArray) (x1:ByteArray):A0 (A0E k x0 x1) (C5g (A2Q k) (K8 k) x0 x1):=by
 show A0 (All.galoisref01_DivMod.f k x0 x1) _
 unfold All.galoisref01_DivMod.f;unfold C5g;(try simp only [A2Q,A1w,A3B,I9,K8,v8,All.integer_zero.f,All.exact_stepAt.f,All.S24.f0,All.S24.f1,All.rd_T24,All.z24]);exact BR
theorem D1I (k:Nat):B5 Tryz.prog (C6v (A0E k)):=
 B9 C0 HM A3i (es:=fun k=>B3h (I9 k) (K8 k) (v8 k)) (fun k=>fc ⟨B2f k,fc ⟨B9s k,fc ⟨F5u k,fz⟩⟩⟩) Tryz.func203 3 (by kernel_rfl) (fun s=>rfl) (fun k=>B4h (A2Q k) (A1w k) (A3B k)) (fc ⟨fun s=>rfl,fc ⟨fun s=>rfl,fc ⟨fun s=>rfl,fz⟩⟩⟩) (fun k s0=> .cons (by kernel_rfl) (by kernel_rfl) (fun s r h=>(E9x (A2Q k) (A1w k) (A3B k) (I9 k) (K8 k) (v8 k) s0 s).trans (F5l k s.1.1 s.1.2.1 s.1.2.2.1 s.2.1 s.2.2.1 r h)) (.cons (by kernel_rfl) (by kernel_rfl) (fun s r h=>(E0b (A2Q k) (A1w k) (A3B k) (I9 k) (K8 k) (v8 k) s0 s).trans (E5H k s.1.1 s.1.2.1 s.1.2.2.1 s.2.1 s.2.2.1 r h)) (.cons (by kernel_rfl) (by kernel_rfl) (fun s r h=>(E9R (A2Q k) (A1w k) (A3B k) (I9 k) (K8 k) (v8 k) s0 s).trans (E3E k s.1.1 s.1.2.1 s.1.2.2.1 s.1.2.2.2.1 s.1.2.2.2.2.1 s.1.2.2.2.2.2.1 s.2.1 s.2.2.1 r h)) (.nil)))) (F:=fun k s=>A0E k s.1.1 s.1.2.1) (fun k s r h=>(F4I (A2Q k) (A1w k) (A3B k) (I9 k) (K8 k) (v8 k) s).trans (E7q k s.1.1 s.1.2.1 r h)) k
noncomputable abbrev A7s (k:Nat) (x0:ByteArray) (x1:ByteArray):Option A0w:=All.galoisref01_Gcd.l0 k x0 x1
theorem F0m (k:Nat) (x0:ByteArray) (x1:ByteArray):A0 (All.galoisref01_Gcd.l0 (k+1) x0 x1) (C8a (A7s k) (A0E k) x0 x1):=by rw [All.galoisref01_Gcd.l0];unfold C8a;(try simp only [A7s,A0E,All.integer_zero.f,All.exact_stepAt.f,All.S24.f0,All.S24.f1,All.rd_T24,All.z24]);exact BR
theorem E6q (k:Nat) (x0:ByteArray) (x1:ByteArray):A0 (Y3 k x0 x1) (C8i (A7s k) x0 x1):=by
 show A0 (All.galoisref01_Gcd.f k x0 x1) _
 unfold All.galoisref01_Gcd.f;unfold C8i;(try simp only [A7s,A0E,All.integer_zero.f,All.exact_stepAt.f,All.S24.f0,All.S24.f1,All.rd_T24,All.z24]);exact BR
theorem D0c (k:Nat):B5 Tryz.prog (C7S (Y3 k)):=
 B9 C0 HM B0w (es:=fun k=>C8e (A0E k)) (fun k=>fc ⟨D1I k,fz⟩) Tryz.func180 1 (by kernel_rfl) (fun s=>rfl) (fun k=>C7I (A7s k)) (fc ⟨fun s=>rfl,fz⟩) (fun k s0=> .cons (by kernel_rfl) (by kernel_rfl) (fun s r h=>(E3K (A7s k) (A0E k) s0 s).trans (F0m k s.1.1 s.1.2.1 r h)) (.nil)) (F:=fun k s=>Y3 k s.1.1 s.1.2.1) (fun k s r h=>(E3h (A7s k) (A0E k) s).trans (E6q k s.1.1 s.1.2.1 r h)) k
theorem F2n (k:Nat) (x0:TI) (x1:TI):A0 (v4 k x0 x1) (B9R (Y3 k) (l5 k) (A0E k) x0 x1):=A0.refl _
theorem D7J (k:Nat):B5 Tryz.prog (C3G (v4 k)):=
 B9 C0 HM B5u (es:=fun k=>D2y (Y3 k) (l5 k) (A0E k)) (fun k=>fc ⟨D0c k,fc ⟨C6n k,fc ⟨D1I k,fz⟩⟩⟩) Tryz.func163 0 (by kernel_rfl) (fun s=>rfl) (fun k=>[]) (fz) (fun k s0=> .nil) (F:=fun k s=>v4 k s.1.1 s.1.2.1) (fun k s r h=>(F0J (Y3 k) (l5 k) (A0E k) s).trans (F2n k s.1.1 s.1.2.1 r h)) k
theorem E1M (k:Nat) (x0:TQ) (x1:TQ):A0 (P3 k x0 x1) (B0L (b6 k) (A3d k) (e9 k) (d5 k) (v4 k) x0 x1):=A0.refl _
theorem D1o (k:Nat):B5 Tryz.prog (C0U (P3 k)):=
 B9 C0 HM B8r (es:=fun k=>D8R (b6 k) (A3d k) (e9 k) (d5 k) (v4 k)) (fun k=>fc ⟨D3W k,fc ⟨D9R k,fc ⟨D3N k,fc ⟨D2N k,fc ⟨D7J k,fz⟩⟩⟩⟩⟩) Tryz.func101 0 (by kernel_rfl) (fun s=>rfl) (fun k=>[]) (fz) (fun k s0=> .nil) (F:=fun k s=>P3 k s.1.1 s.1.2.1) (fun k s r h=>(E2B (b6 k) (A3d k) (e9 k) (d5 k) (v4 k) s).trans (E1M k s.1.1 s.1.2.1 r h)) k
theorem F4k (k:Nat) (x0:TP) (x1:Int):A0 (A2V k x0 x1) (B3D (F4 k) x0 x1):=A0.refl _
theorem E3p (k:Nat):B5 Tryz.prog (D7A (A2V k)):=
 B9 C0 HM B7E (es:=fun k=>D0X (F4 k)) (fun k=>fc ⟨A8Q k,fz⟩) Tryz.func102 0 (by kernel_rfl) (fun s=>rfl) (fun k=>[]) (fz) (fun k s0=> .nil) (F:=fun k s=>A2V k s.1.1 s.1.2.1) (fun k s r h=>(E1f (F4 k) s).trans (F4k k s.1.1 s.1.2.1 r h)) k
theorem F2D (k:Nat) (x0:TP) (x1:TP) (x6:Int) (x5:TP):A0 (A1A (k+1) x0 x1 x6 x5) (A7Y (A1A k) (G1 k) (P3 k) (A2V k) x0 x1 x6 x5):=by rw [A1A];exact A0.refl _
theorem b20 (k:Nat) (x0:TP) (x1:TP):A0 (M8 k x0 x1) (B20 (A1A k) x0 x1):=A0.refl _
theorem B6s (k:Nat):B5 Tryz.prog (B4E (M8 k)):=
 B9 C0 HM D20 (es:=fun k=>C7N (G1 k) (P3 k) (A2V k)) (fun k=>fc ⟨B1D k,fc ⟨D1o k,fc ⟨E3p k,fz⟩⟩⟩) Tryz.func20 1 (by kernel_rfl) (fun s=>rfl) (fun k=>C1I (A1A k)) (fc ⟨fun s=>rfl,fz⟩) (fun k s0=> .cons (by kernel_rfl) (by kernel_rfl) (fun s r h=>(F6W (A1A k) (G1 k) (P3 k) (A2V k) s0 s).trans (F2D k s.1.1 s.1.2.1 s.1.2.2.1 s.2.1 r h)) (.nil)) (F:=fun k s=>M8 k s.1.1 s.1.2.1) (fun k s r h=>(e20 (A1A k) (G1 k) (P3 k) (A2V k) s).trans (b20 k s.1.1 s.1.2.1 r h)) k
theorem b15 (k:Nat) (x0:TP):A0 (S7 k x0) (B15 x0):=A0.refl _
theorem C8r (k:Nat):B5 Tryz.prog (B9B (S7 k)):=
 B9 C0 HM D15 (es:=fun k=>[]) (fun k=>fz) Tryz.func15 0 (by kernel_rfl) (fun s=>rfl) (fun k=>[]) (fz) (fun k s0=> .nil) (F:=fun k s=>S7 k s.1.1) (fun k s r h=>(e15 s).trans (b15 k s.1.1 r h)) k
theorem E8D (k:Nat) (x0:ByteArray):A0 (Z9 k x0) (C3x x0):=by
 show A0 (All.galoisref01_Valid.f x0) _
 unfold All.galoisref01_Valid.f;unfold C3x;(try simp only [All.integer_zero.f,All.exact_stepAt.f,All.S24.f0,All.S24.f1,All.rd_T24,All.z24]);exact BR
theorem D6g (k:Nat):B5 Tryz.prog (C3E (Z9 k)):=
 B9 C0 HM B6O (es:=fun k=>[]) (fun k=>fz) Tryz.func178 0 (by kernel_rfl) (fun s=>rfl) (fun k=>[]) (fz) (fun k s0=> .nil) (F:=fun k s=>Z9 k s.1.1) (fun k s r h=>(F4G s).trans (E8D k s.1.1 r h)) k
theorem E3V (k:Nat) (x0:TI):A0 (A0S k x0) (C8K (Z9 k) x0):=by
 show A0 (All.galoisref02_Valid.f x0.1 x0.2) _
 unfold All.galoisref02_Valid.f;unfold C8K;(try simp only [Z9,All.integer_zero.f,All.exact_stepAt.f,All.S24.f0,All.S24.f1,All.rd_T24,All.z24]);exact BR
theorem F0T (k:Nat):B5 Tryz.prog (D2p (A0S k)):=
 B9 C0 HM B8B (es:=fun k=>D4B (Z9 k)) (fun k=>fc ⟨D6g k,fz⟩) Tryz.func177 0 (by kernel_rfl) (fun s=>rfl) (fun k=>[]) (fz) (fun k s0=> .nil) (F:=fun k s=>A0S k s.1.1) (fun k s r h=>(E5s (Z9 k) s).trans (E3V k s.1.1 r h)) k
theorem D9w (k:Nat) (x0:ByteArray):A0 (z9 k x0) (C8S x0):=by
 show A0 (All.galoisref01_Fits.f x0) _
 unfold All.galoisref01_Fits.f;unfold C8S;(try simp only [All.integer_zero.f,All.exact_stepAt.f,All.S24.f0,All.S24.f1,All.rd_T24,All.z24]);exact BR
theorem D0t (k:Nat):B5 Tryz.prog (C5f (z9 k)):=
 B9 C0 HM B8G (es:=fun k=>[]) (fun k=>fz) Tryz.func218 0 (by kernel_rfl) (fun s=>rfl) (fun k=>[]) (fz) (fun k s0=> .nil) (F:=fun k s=>z9 k s.1.1) (fun k s r h=>(E1a s).trans (D9w k s.1.1 r h)) k
theorem E4E (k:Nat) (x0:TI):A0 (A3l k x0) (C7r (z9 k) x0):=by
 show A0 (All.galoisref02_Fits.f x0.1 x0.2) _
 unfold All.galoisref02_Fits.f;unfold C7r;(try simp only [z9,All.integer_zero.f,All.exact_stepAt.f,All.S24.f0,All.S24.f1,All.rd_T24,All.z24]);exact BR
theorem E9D (k:Nat):B5 Tryz.prog (D0r (A3l k)):=
 B9 C0 HM B7V (es:=fun k=>D5G (z9 k)) (fun k=>fc ⟨D0t k,fz⟩) Tryz.func217 0 (by kernel_rfl) (fun s=>rfl) (fun k=>[]) (fz) (fun k s0=> .nil) (F:=fun k s=>A3l k s.1.1) (fun k s r h=>(F1n (z9 k) s).trans (E4E k s.1.1 r h)) k
theorem F0O (k:Nat) (x0:TQ):A0 (Z2 k x0) (B0h (A3l k) (z9 k) x0):=A0.refl _
theorem E1N (k:Nat):B5 Tryz.prog (D5W (Z2 k)):=
 B9 C0 HM B9A (es:=fun k=>D6q (A3l k) (z9 k)) (fun k=>fc ⟨E9D k,fc ⟨D0t k,fz⟩⟩) Tryz.func179 0 (by kernel_rfl) (fun s=>rfl) (fun k=>[]) (fz) (fun k s0=> .nil) (F:=fun k s=>Z2 k s.1.1) (fun k s r h=>(E0y (A3l k) (z9 k) s).trans (F0O k s.1.1 r h)) k
theorem F5S (k:Nat) (x0:TQ):A0 (R5 k x0) (A4u (A0S k) (Z9 k) (Z2 k) (Y3 k) x0):=A0.refl _
theorem F4v (k:Nat):B5 Tryz.prog (D4d (R5 k)):=
 B9 C0 HM B6d (es:=fun k=>D4X (A0S k) (Z9 k) (Z2 k) (Y3 k)) (fun k=>fc ⟨F0T k,fc ⟨D6g k,fc ⟨E1N k,fc ⟨D0c k,fz⟩⟩⟩⟩) Tryz.func135 0 (by kernel_rfl) (fun s=>rfl) (fun k=>[]) (fz) (fun k s0=> .nil) (F:=fun k s=>R5 k s.1.1) (fun k s r h=>(E6d (A0S k) (Z9 k) (Z2 k) (Y3 k) s).trans (F5S k s.1.1 r h)) k
theorem E2Z (k:Nat) (x0:TP) (x9:TP) (x10:Int) (x11:Int):A0 (A0p (k+1) x0 x9 x10 x11) (A9C (A0p k) (R0 k) (R5 k) x0 x9 x10 x11):=by rw [A0p];exact A0.refl _
theorem b69 (k:Nat) (x0:TP):A0 (V3 k x0) (B69 (A0p k) x0):=A0.refl _
theorem C4h (k:Nat):B5 Tryz.prog (B8g (V3 k)):=
 B9 C0 HM D69 (es:=fun k=>C5S (R0 k) (R5 k)) (fun k=>fc ⟨D0V k,fc ⟨F4v k,fz⟩⟩) Tryz.func69 1 (by kernel_rfl) (fun s=>rfl) (fun k=>C0k (A0p k)) (fc ⟨fun s=>rfl,fz⟩) (fun k s0=> .cons (by kernel_rfl) (by kernel_rfl) (fun s r h=>(E2F (A0p k) (R0 k) (R5 k) s0 s).trans (E2Z k s.1.1 s.1.2.1 s.1.2.2.1 s.1.2.2.2.1 r h)) (.nil)) (F:=fun k s=>V3 k s.1.1) (fun k s r h=>(e69 (A0p k) (R0 k) (R5 k) s).trans (b69 k s.1.1 r h)) k
theorem b80 (k:Nat) (x0:TP):A0 (Y6 k x0) (B80 (F4 k) x0):=A0.refl _
theorem D3I (k:Nat):B5 Tryz.prog (C4V (Y6 k)):=
 B9 C0 HM D80 (es:=fun k=>D7v (F4 k)) (fun k=>fc ⟨A8Q k,fz⟩) Tryz.func80 0 (by kernel_rfl) (fun s=>rfl) (fun k=>[]) (fz) (fun k s0=> .nil) (F:=fun k s=>Y6 k s.1.1) (fun k s r h=>(e80 (F4 k) s).trans (b80 k s.1.1 r h)) k
theorem b82 (k:Nat) (x0:TQ):A0 (A2n k x0) (B82 x0):=A0.refl _
theorem F4w (k:Nat):B5 Tryz.prog (D2W (A2n k)):=
 B9 C0 HM D82 (es:=fun k=>[]) (fun k=>fz) Tryz.func82 0 (by kernel_rfl) (fun s=>rfl) (fun k=>[]) (fz) (fun k s0=> .nil) (F:=fun k s=>A2n k s.1.1) (fun k s r h=>(e82 s).trans (b82 k s.1.1 r h)) k
theorem E4T (k:Nat) (x24:TP) (x25:Int) (x26:Int) (x1:TP):A0 (A1M (k+1) x24 x25 x26 x1) (A7L (A1M k) (S7 k) (A2n k) x24 x25 x26 x1):=by rw [A1M];exact A0.refl _
theorem b13 (k:Nat) (x0:TP):A0 (O6 k x0) (B13 (A1M k) (V3 k) (Y6 k) (F4 k) x0):=A0.refl _
theorem B9a (k:Nat):B5 Tryz.prog (B5E (O6 k)):=
 B9 C0 HM D13 (es:=fun k=>C8M (S7 k) (V3 k) (Y6 k) (F4 k) (A2n k)) (fun k=>fc ⟨C8r k,fc ⟨C4h k,fc ⟨D3I k,fc ⟨A8Q k,fc ⟨F4w k,fz⟩⟩⟩⟩⟩) Tryz.func13 1 (by kernel_rfl) (fun s=>rfl) (fun k=>C4W (A1M k)) (fc ⟨fun s=>rfl,fz⟩) (fun k s0=> .cons (by kernel_rfl) (by kernel_rfl) (fun s r h=>(F1T (A1M k) (S7 k) (V3 k) (Y6 k) (F4 k) (A2n k) s0 s).trans (E4T k s.1.1 s.1.2.1 s.1.2.2.1 s.2.1 r h)) (.nil)) (F:=fun k s=>O6 k s.1.1) (fun k s r h=>(e13 (A1M k) (S7 k) (V3 k) (Y6 k) (F4 k) (A2n k) s).trans (b13 k s.1.1 r h)) k
theorem b55 (k:Nat) (x0:TP) (x1:TP):A0 (A2i k x0 x1) (B55 (O6 k) (S7 k) (V3 k) x0 x1):=A0.refl _
theorem F4c (k:Nat):B5 Tryz.prog (D1c (A2i k)):=
 B9 C0 HM D55 (es:=fun k=>D3R (O6 k) (S7 k) (V3 k)) (fun k=>fc ⟨B9a k,fc ⟨C8r k,fc ⟨C4h k,fz⟩⟩⟩) Tryz.func55 0 (by kernel_rfl) (fun s=>rfl) (fun k=>[]) (fz) (fun k s0=> .nil) (F:=fun k s=>A2i k s.1.1 s.1.2.1) (fun k s r h=>(e55 (O6 k) (S7 k) (V3 k) s).trans (b55 k s.1.1 s.1.2.1 r h)) k
theorem E5i (k:Nat) (x1:TF) (x16:TF) (x17:Int) (x18:Int) (x2:TP):A0 (A1L (k+1) x1 x16 x17 x18 x2) (A8p (A1L k) (A2i k) x1 x16 x17 x18 x2):=by rw [A1L];exact A0.refl _
theorem b14 (k:Nat) (x0:TP) (x1:TF):A0 (A3I k x0 x1) (B14 (A1L k) (O6 k) x0 x1):=A0.refl _
theorem F5J (k:Nat):B5 Tryz.prog (D1B (A3I k)):=
 B9 C0 HM D14 (es:=fun k=>C3Q (O6 k) (A2i k)) (fun k=>fc ⟨B9a k,fc ⟨F4c k,fz⟩⟩) Tryz.func14 1 (by kernel_rfl) (fun s=>rfl) (fun k=>C3c (A1L k)) (fc ⟨fun s=>rfl,fz⟩) (fun k s0=> .cons (by kernel_rfl) (by kernel_rfl) (fun s r h=>(F2E (A1L k) (O6 k) (A2i k) s0 s).trans (E5i k s.1.1 s.1.2.1 s.1.2.2.1 s.1.2.2.2.1 s.2.1 r h)) (.nil)) (F:=fun k s=>A3I k s.1.1 s.1.2.1) (fun k s r h=>(e14 (A1L k) (O6 k) (A2i k) s).trans (b14 k s.1.1 s.1.2.1 r h)) k
theorem E5h (k:Nat) (x17:TP) (x18:Int) (x19:Int):A0 (A0x (k+1) x17 x18 x19) (A6w (A0x k) x17 x18 x19):=by rw [A0x];exact A0.refl _
theorem b70 (k:Nat) (x0:TP) (x1:Int):A0 (A4Q k x0 x1) (B70 (A0x k) (V3 k) x0 x1):=A0.refl _
theorem F6B (k:Nat):B5 Tryz.prog (D0p (A4Q k)):=
 B9 C0 HM D70 (es:=fun k=>C2S (V3 k)) (fun k=>fc ⟨C4h k,fz⟩) Tryz.func70 1 (by kernel_rfl) (fun s=>rfl) (fun k=>C7K (A0x k)) (fc ⟨fun s=>rfl,fz⟩) (fun k s0=> .cons (by kernel_rfl) (by kernel_rfl) (fun s r h=>(E1k (A0x k) (V3 k) s0 s).trans (E5h k s.1.1 s.1.2.1 s.1.2.2.1 r h)) (.nil)) (F:=fun k s=>A4Q k s.1.1 s.1.2.1) (fun k s r h=>(e70 (A0x k) (V3 k) s).trans (b70 k s.1.1 s.1.2.1 r h)) k
theorem b49 (k:Nat) (x0:TP) (x1:TP):A0 (n7 k x0 x1) (B49 (O6 k) (S7 k) (A4Q k) x0 x1):=A0.refl _
theorem D6c (k:Nat):B5 Tryz.prog (C9Z (n7 k)):=
 B9 C0 HM D49 (es:=fun k=>D5x (O6 k) (S7 k) (A4Q k)) (fun k=>fc ⟨B9a k,fc ⟨C8r k,fc ⟨F6B k,fz⟩⟩⟩) Tryz.func49 0 (by kernel_rfl) (fun s=>rfl) (fun k=>[]) (fz) (fun k s0=> .nil) (F:=fun k s=>n7 k s.1.1 s.1.2.1) (fun k s r h=>(e49 (O6 k) (S7 k) (A4Q k) s).trans (b49 k s.1.1 s.1.2.1 r h)) k
theorem E3k (k:Nat) (x19:TP) (x20:Int) (x21:Int):A0 (A0k (k+1) x19 x20 x21) (A8b (A0k k) x19 x20 x21):=by rw [A0k];exact A0.refl _
theorem b79 (k:Nat) (x0:TP) (x1:Int):A0 (A3j k x0 x1) (B79 (A0k k) (O6 k) x0 x1):=A0.refl _
theorem F4M (k:Nat):B5 Tryz.prog (D4q (A3j k)):=
 B9 C0 HM D79 (es:=fun k=>C4v (O6 k)) (fun k=>fc ⟨B9a k,fz⟩) Tryz.func79 1 (by kernel_rfl) (fun s=>rfl) (fun k=>C2F (A0k k)) (fc ⟨fun s=>rfl,fz⟩) (fun k s0=> .cons (by kernel_rfl) (by kernel_rfl) (fun s r h=>(F3m (A0k k) (O6 k) s0 s).trans (E3k k s.1.1 s.1.2.1 s.1.2.2.1 r h)) (.nil)) (F:=fun k s=>A3j k s.1.1 s.1.2.1) (fun k s r h=>(e79 (A0k k) (O6 k) s).trans (b79 k s.1.1 s.1.2.1 r h)) k
theorem F1k (k:Nat) (x28:TF) (x29:Int) (x30:Int) (x4:TP):A0 (A1H (k+1) x28 x29 x30 x4) (A8h (A1H k) (n7 k) x28 x29 x30 x4):=by rw [A1H];exact A0.refl _
theorem b26 (k:Nat) (x0:TP) (x1:TF) (x2:Int) (x3:Int):A0 (A4b k x0 x1 x2 x3) (B26 (A1H k) (A3I k) (A3j k) x0 x1 x2 x3):=A0.refl _
theorem E2K (k:Nat):B5 Tryz.prog (D4r (A4b k)):=
 B9 C0 HM D26 (es:=fun k=>C5n (A3I k) (n7 k) (A3j k)) (fun k=>fc ⟨F5J k,fc ⟨D6c k,fc ⟨F4M k,fz⟩⟩⟩) Tryz.func26 1 (by kernel_rfl) (fun s=>rfl) (fun k=>C0a (A1H k)) (fc ⟨fun s=>rfl,fz⟩) (fun k s0=> .cons (by kernel_rfl) (by kernel_rfl) (fun s r h=>(F0Z (A1H k) (A3I k) (n7 k) (A3j k) s0 s).trans (F1k k s.1.1 s.1.2.1 s.1.2.2.1 s.2.1 r h)) (.nil)) (F:=fun k s=>A4b k s.1.1 s.1.2.1 s.1.2.2.1 s.1.2.2.2.1) (fun k s r h=>(e26 (A1H k) (A3I k) (n7 k) (A3j k) s).trans (b26 k s.1.1 s.1.2.1 s.1.2.2.1 s.1.2.2.2.1 r h)) k
theorem E4n (k:Nat) (x0:TQ) (x1:TQ):A0 (N2 k x0 x1) (A9W (b6 k) (e9 k) (d5 k) (v4 k) x0 x1):=A0.refl _
theorem C2N (k:Nat):B5 Tryz.prog (B6W (N2 k)):=
 B9 C0 HM B5U (es:=fun k=>D1L (b6 k) (e9 k) (d5 k) (v4 k)) (fun k=>fc ⟨D3W k,fc ⟨D3N k,fc ⟨D2N k,fc ⟨D7J k,fz⟩⟩⟩⟩) Tryz.func118 0 (by kernel_rfl) (fun s=>rfl) (fun k=>[]) (fz) (fun k s0=> .nil) (F:=fun k s=>N2 k s.1.1 s.1.2.1) (fun k s r h=>(D9l (b6 k) (e9 k) (d5 k) (v4 k) s).trans (E4n k s.1.1 s.1.2.1 r h)) k
theorem D9k (k:Nat) (x0:TP) (x1:TP) (x6:Int) (x5:TP):A0 (A0A (k+1) x0 x1 x6 x5) (A7J (t8 k) (G1 k) (F4 k) x0 x1 x6 x5):=by rw [A0A];exact A0.refl _
theorem D9X (k:Nat) (x0:TP) (x1:TP) (x6:Int) (x21:Int) (x22:Int) (x5:TP) (x7:TQ):A0 (t8 (k+1) x0 x1 x6 x21 x22 x5 x7) (A8L (A0A k) (t8 k) (P3 k) (N2 k) x0 x1 x6 x21 x22 x5 x7):=by rw [t8];exact A0.refl _
theorem b45 (k:Nat) (x0:TP) (x1:TP):A0 (X1 k x0 x1) (B45 (A0A k) x0 x1):=A0.refl _
theorem D2E (k:Nat):B5 Tryz.prog (C4A (X1 k)):=
 B9 C0 HM D45 (es:=fun k=>B8X (G1 k) (F4 k) (P3 k) (N2 k)) (fun k=>fc ⟨B1D k,fc ⟨A8Q k,fc ⟨D1o k,fc ⟨C2N k,fz⟩⟩⟩⟩) Tryz.func45 2 (by kernel_rfl) (fun s=>rfl) (fun k=>B6M (A0A k) (t8 k)) (fc ⟨fun s=>rfl,fc ⟨fun s=>rfl,fz⟩⟩) (fun k s0=> .cons (by kernel_rfl) (by kernel_rfl) (fun s r h=>(F5X (A0A k) (t8 k) (G1 k) (F4 k) (P3 k) (N2 k) s0 s).trans (D9k k s.1.1 s.1.2.1 s.1.2.2.1 s.2.1 r h)) (.cons (by kernel_rfl) (by kernel_rfl) (fun s r h=>(F3d (A0A k) (t8 k) (G1 k) (F4 k) (P3 k) (N2 k) s0 s).trans (D9X k s.1.1 s.1.2.1 s.1.2.2.1 s.1.2.2.2.1 s.1.2.2.2.2.1 s.2.1 s.2.2.1 r h)) (.nil))) (F:=fun k s=>X1 k s.1.1 s.1.2.1) (fun k s r h=>(e45 (A0A k) (t8 k) (G1 k) (F4 k) (P3 k) (N2 k) s).trans (b45 k s.1.1 s.1.2.1 r h)) k
theorem F6T (k:Nat) (x0:TF) (x3:Int):A0 (A0Q (k+1) x0 x3) (A7N (A0Q k) x0 x3):=by rw [A0Q];exact A0.refl _
theorem F3K (k:Nat) (x0:TF):A0 (A0u k x0) (B3H (A0Q k) x0):=A0.refl _
theorem E2I (k:Nat):B5 Tryz.prog (D3H (A0u k)):=
 B9 C0 HM B0N (es:=fun k=>[]) (fun k=>fz) Tryz.func104 1 (by kernel_rfl) (fun s=>rfl) (fun k=>C9u (A0Q k)) (fc ⟨fun s=>rfl,fz⟩) (fun k s0=> .cons (by kernel_rfl) (by kernel_rfl) (fun s r h=>(E8x (A0Q k) s0 s).trans (F6T k s.1.1 s.1.2.1 r h)) (.nil)) (F:=fun k s=>A0u k s.1.1) (fun k s r h=>(D9r (A0Q k) s).trans (F3K k s.1.1 r h)) k
theorem F2s (k:Nat) (x1:Int) (x6:Int) (x2:TQ) (x5:TP):A0 (A0W (k+1) x1 x6 x2 x5) (A7t (A0W k) (G1 k) (F4 k) x1 x6 x2 x5):=by rw [A0W];exact A0.refl _
theorem b21 (k:Nat) (x0:TQ) (x1:Int):A0 (A2I k x0 x1) (B21 (A0W k) x0 x1):=A0.refl _
theorem E3n (k:Nat):B5 Tryz.prog (D7V (A2I k)):=
 B9 C0 HM D21 (es:=fun k=>C3L (G1 k) (F4 k)) (fun k=>fc ⟨B1D k,fc ⟨A8Q k,fz⟩⟩) Tryz.func21 1 (by kernel_rfl) (fun s=>rfl) (fun k=>C9a (A0W k)) (fc ⟨fun s=>rfl,fz⟩) (fun k s0=> .cons (by kernel_rfl) (by kernel_rfl) (fun s r h=>(E5A (A0W k) (G1 k) (F4 k) s0 s).trans (F2s k s.1.1 s.1.2.1 s.2.1 s.2.2.1 r h)) (.nil)) (F:=fun k s=>A2I k s.1.1 s.1.2.1) (fun k s r h=>(e21 (A0W k) (G1 k) (F4 k) s).trans (b21 k s.1.1 s.1.2.1 r h)) k
theorem F3E (k:Nat) (x8:TP) (x9:Int) (x10:Int) (x3:TQ) (x5:TP):A0 (A0m (k+1) x8 x9 x10 x3 x5) (A7A (A0m k) (G1 k) (N2 k) x8 x9 x10 x3 x5):=by rw [A0m];exact A0.refl _
theorem b98 (k:Nat) (x0:TP) (x1:TQ):A0 (A5M k x0 x1) (B98 (A0m k) x0 x1):=A0.refl _
theorem E7i (k:Nat):B5 Tryz.prog (D6s (A5M k)):=
 B9 C0 HM D98 (es:=fun k=>C7H (G1 k) (N2 k)) (fun k=>fc ⟨B1D k,fc ⟨C2N k,fz⟩⟩) Tryz.func98 1 (by kernel_rfl) (fun s=>rfl) (fun k=>C2G (A0m k)) (fc ⟨fun s=>rfl,fz⟩) (fun k s0=> .cons (by kernel_rfl) (by kernel_rfl) (fun s r h=>(D9B (A0m k) (G1 k) (N2 k) s0 s).trans (F3E k s.1.1 s.1.2.1 s.1.2.2.1 s.2.1 s.2.2.1 r h)) (.nil)) (F:=fun k s=>A5M k s.1.1 s.1.2.1) (fun k s r h=>(e98 (A0m k) (G1 k) (N2 k) s).trans (b98 k s.1.1 s.1.2.1 r h)) k
theorem b51 (k:Nat) (x0:TP) (x1:TP):A0 (j6 k x0 x1) (B51 (M8 k) (F4 k) (A5M k) x0 x1):=A0.refl _
theorem D3Z (k:Nat):B5 Tryz.prog (C7z (j6 k)):=
 B9 C0 HM D51 (es:=fun k=>D6E (M8 k) (F4 k) (A5M k)) (fun k=>fc ⟨B6s k,fc ⟨A8Q k,fc ⟨E7i k,fz⟩⟩⟩) Tryz.func51 0 (by kernel_rfl) (fun s=>rfl) (fun k=>[]) (fz) (fun k s0=> .nil) (F:=fun k s=>j6 k s.1.1 s.1.2.1) (fun k s r h=>(e51 (M8 k) (F4 k) (A5M k) s).trans (b51 k s.1.1 s.1.2.1 r h)) k
theorem F4V (k:Nat) (x0:TQ):A0 (A3p k x0) (B6z x0):=A0.refl _
theorem F4C (k:Nat):B5 Tryz.prog (D8B (A3p k)):=
 B9 C0 HM B7k (es:=fun k=>[]) (fun k=>fz) Tryz.func157 0 (by kernel_rfl) (fun s=>rfl) (fun k=>[]) (fz) (fun k s0=> .nil) (F:=fun k s=>A3p k s.1.1) (fun k s r h=>(F5C s).trans (F4V k s.1.1 r h)) k
theorem b99 (k:Nat) (x0:TQ) (x1:TQ):A0 (A0H k x0 x1) (B99 (N2 k) (A3p k) x0 x1):=A0.refl _
theorem E6Z (k:Nat):B5 Tryz.prog (D4y (A0H k)):=
 B9 C0 HM D99 (es:=fun k=>D1h (N2 k) (A3p k)) (fun k=>fc ⟨C2N k,fc ⟨F4C k,fz⟩⟩) Tryz.func99 0 (by kernel_rfl) (fun s=>rfl) (fun k=>[]) (fz) (fun k s0=> .nil) (F:=fun k s=>A0H k s.1.1 s.1.2.1) (fun k s r h=>(e99 (N2 k) (A3p k) s).trans (b99 k s.1.1 s.1.2.1 r h)) k
theorem E9o (k:Nat) (x1:TP) (x6:TP) (x7:TP):A0 (p9 (k+1) x1 x6 x7) (A7D (p9 k) (M8 k) (A2I k) (X1 k) (j6 k) (Y6 k) (A0H k) x1 x6 x7):=by rw [p9];exact A0.refl _
theorem E4N (k:Nat) (x0:TP) (x1:TP):A0 (A5P k x0 x1) (B4x (p9 k) (G1 k) x0 x1):=A0.refl _
theorem D9g (k:Nat):B5 Tryz.prog (D5h (A5P k)):=
 B9 C0 HM B1J (es:=fun k=>C3a (M8 k) (A2I k) (X1 k) (G1 k) (j6 k) (Y6 k) (A0H k)) (fun k=>fc ⟨B6s k,fc ⟨E3n k,fc ⟨D2E k,fc ⟨B1D k,fc ⟨D3Z k,fc ⟨D3I k,fc ⟨E6Z k,fz⟩⟩⟩⟩⟩⟩⟩) Tryz.func210 1 (by kernel_rfl) (fun s=>rfl) (fun k=>C2p (p9 k)) (fc ⟨fun s=>rfl,fz⟩) (fun k s0=> .cons (by kernel_rfl) (by kernel_rfl) (fun s r h=>(E8h (p9 k) (M8 k) (A2I k) (X1 k) (G1 k) (j6 k) (Y6 k) (A0H k) s0 s).trans (E9o k s.1.1 s.1.2.1 s.1.2.2.1 r h)) (.nil)) (F:=fun k s=>A5P k s.1.1 s.1.2.1) (fun k s r h=>(F3s (p9 k) (M8 k) (A2I k) (X1 k) (G1 k) (j6 k) (Y6 k) (A0H k) s).trans (E4N k s.1.1 s.1.2.1 r h)) k
theorem E7B (k:Nat) (x0:TP) (x1:TP):A0 (A4q k x0 x1) (B3u (A5P k) x0 x1):=A0.refl _
theorem E8L (k:Nat):B5 Tryz.prog (D3h (A4q k)):=
 B9 C0 HM B8w (es:=fun k=>D1n (A5P k)) (fun k=>fc ⟨D9g k,fz⟩) Tryz.func167 0 (by kernel_rfl) (fun s=>rfl) (fun k=>[]) (fz) (fun k s0=> .nil) (F:=fun k s=>A4q k s.1.1 s.1.2.1) (fun k s r h=>(E5m (A5P k) s).trans (E7B k s.1.1 s.1.2.1 r h)) k
theorem E9c (k:Nat) (x0:TP) (x1:TP):A0 (A0a k x0 x1) (B4b (A4q k) x0 x1):=A0.refl _
theorem E6a (k:Nat):B5 Tryz.prog (D6V (A0a k)):=
 B9 C0 HM B8m (es:=fun k=>D4K (A4q k)) (fun k=>fc ⟨E8L k,fz⟩) Tryz.func109 0 (by kernel_rfl) (fun s=>rfl) (fun k=>[]) (fz) (fun k s0=> .nil) (F:=fun k s=>A0a k s.1.1 s.1.2.1) (fun k s r h=>(E1o (A4q k) s).trans (E9c k s.1.1 s.1.2.1 r h)) k
theorem E6i (k:Nat) (x1:TF) (x2:TF) (x8:Int) (x3:TP) (x7:TF):A0 (A0D (k+1) x1 x2 x8 x3 x7) (A7Q (s8 k) (A0u k) x1 x2 x8 x3 x7):=by rw [A0D];exact A0.refl _
theorem E0H (k:Nat) (x1:TF) (x2:TF) (x8:Int) (x9:TP) (x22:Int) (x23:Int) (x3:TP) (x7:TF):A0 (s8 (k+1) x1 x2 x8 x9 x22 x23 x3 x7) (A9D (A0D k) (s8 k) (M8 k) (X1 k) (A0a k) x1 x2 x8 x9 x22 x23 x3 x7):=by rw [s8];exact A0.refl _
theorem b30 (k:Nat) (x0:TP) (x1:TF) (x2:TF):A0 (A5J k x0 x1 x2) (B30 (A0D k) x0 x1 x2):=A0.refl _
theorem E0i (k:Nat):B5 Tryz.prog (D5o (A5J k)):=
 B9 C0 HM D30 (es:=fun k=>B9m (M8 k) (X1 k) (A0u k) (A0a k)) (fun k=>fc ⟨B6s k,fc ⟨D2E k,fc ⟨E2I k,fc ⟨E6a k,fz⟩⟩⟩⟩) Tryz.func30 2 (by kernel_rfl) (fun s=>rfl) (fun k=>B8C (A0D k) (s8 k)) (fc ⟨fun s=>rfl,fc ⟨fun s=>rfl,fz⟩⟩) (fun k s0=> .cons (by kernel_rfl) (by kernel_rfl) (fun s r h=>(E6h (A0D k) (s8 k) (M8 k) (X1 k) (A0u k) (A0a k) s0 s).trans (E6i k s.1.1 s.1.2.1 s.1.2.2.1 s.2.1 s.2.2.1 r h)) (.cons (by kernel_rfl) (by kernel_rfl) (fun s r h=>(E1j (A0D k) (s8 k) (M8 k) (X1 k) (A0u k) (A0a k) s0 s).trans (E0H k s.1.1 s.1.2.1 s.1.2.2.1 s.1.2.2.2.1 s.1.2.2.2.2.1 s.1.2.2.2.2.2.1 s.2.1 s.2.2.1 r h)) (.nil))) (F:=fun k s=>A5J k s.1.1 s.1.2.1 s.1.2.2.1) (fun k s r h=>(e30 (A0D k) (s8 k) (M8 k) (X1 k) (A0u k) (A0a k) s).trans (b30 k s.1.1 s.1.2.1 s.1.2.2.1 r h)) k
theorem b52 (k:Nat) (x0:TP) (x1:TF) (x2:TP):A0 (A4I k x0 x1 x2) (B52 (J8 k) (Y4 k) (V5 k) (j5 k) x0 x1 x2):=A0.refl _
theorem E3y (k:Nat):B5 Tryz.prog (D6F (A4I k)):=
 B9 C0 HM D52 (es:=fun k=>D3l (J8 k) (Y4 k) (V5 k) (j5 k)) (fun k=>fc ⟨B1f k,fc ⟨D0y k,fc ⟨C7J k,fc ⟨D7k k,fz⟩⟩⟩⟩) Tryz.func52 0 (by kernel_rfl) (fun s=>rfl) (fun k=>[]) (fz) (fun k s0=> .nil) (F:=fun k s=>A4I k s.1.1 s.1.2.1 s.1.2.2.1) (fun k s r h=>(e52 (J8 k) (Y4 k) (V5 k) (j5 k) s).trans (b52 k s.1.1 s.1.2.1 s.1.2.2.1 r h)) k
theorem E0e (k:Nat) (x0:TP) (x1:TF) (x2:TF):A0 (A4m k x0 x1 x2) (C7G (m5 k) x0 x1 x2):=A0.refl _
theorem E1W (k:Nat):B5 Tryz.prog (D1t (A4m k)):=
 B9 C0 HM B9L (es:=fun k=>D5f (m5 k)) (fun k=>fc ⟨D3E k,fz⟩) Tryz.func129 0 (by kernel_rfl) (fun s=>rfl) (fun k=>[]) (fz) (fun k s0=> .nil) (F:=fun k s=>A4m k s.1.1 s.1.2.1 s.1.2.2.1) (fun k s r h=>(E2e (m5 k) s).trans (E0e k s.1.1 s.1.2.1 s.1.2.2.1 r h)) k
theorem E5l (k:Nat) (x0:(TP×TF×TF×Unit)):A0 (A4O k x0) (B4A (R3 k) (A4m k) x0):=A0.refl _
theorem E6t (k:Nat):B5 Tryz.prog (D6Y (A4O k)):=
 B9 C0 HM B6u (es:=fun k=>D5m (R3 k) (A4m k)) (fun k=>fc ⟨B8y k,fc ⟨E1W k,fz⟩⟩) Tryz.func111 0 (by kernel_rfl) (fun s=>rfl) (fun k=>[]) (fz) (fun k s0=> .nil) (F:=fun k s=>A4O k s.1.1) (fun k s r h=>(E8u (R3 k) (A4m k) s).trans (E5l k s.1.1 r h)) k
theorem b53 (k:Nat) (x0:TP) (x1:TF) (x2:TF):A0 (A5H k x0 x1 x2) (B53 (J8 k) (A4O k) x0 x1 x2):=A0.refl _
theorem D9s (k:Nat):B5 Tryz.prog (D3o (A5H k)):=
 B9 C0 HM D53 (es:=fun k=>D7g (J8 k) (A4O k)) (fun k=>fc ⟨B1f k,fc ⟨E6t k,fz⟩⟩) Tryz.func53 0 (by kernel_rfl) (fun s=>rfl) (fun k=>[]) (fz) (fun k s0=> .nil) (F:=fun k s=>A5H k s.1.1 s.1.2.1 s.1.2.2.1) (fun k s r h=>(e53 (J8 k) (A4O k) s).trans (b53 k s.1.1 s.1.2.1 s.1.2.2.1 r h)) k
noncomputable abbrev FX8 (k:Nat) (x0:TP) (x1:TF) (x2:TP):Option R8:=B8 (A3G k) (W4 k) (M8 k) (A4b k) (z5 k) (A5J k) (n7 k) (A1C k) (j6 k) (A4I k) (A5H k) x0 x1 x2
theorem b8 (k:Nat) (x0:TP) (x1:TF) (x2:TP):A0 (FX8 k x0 x1 x2) (B8 (A3G k) (W4 k) (M8 k) (A4b k) (z5 k) (A5J k) (n7 k) (A1C k) (j6 k) (A4I k) (A5H k) x0 x1 x2):=A0.refl _
theorem ok8 (k:Nat):B5 Tryz.prog (fe8 (FX8 k)):=
 B9 C0 HM D8 (es:=fun k=>D4w (A3G k) (W4 k) (M8 k) (A4b k) (z5 k) (A5J k) (n7 k) (A1C k) (j6 k) (A4I k) (A5H k)) (fun k=>fc ⟨E3o k,fc ⟨C5G k,fc ⟨B6s k,fc ⟨E2K k,fc ⟨D7s k,fc ⟨E0i k,fc ⟨D6c k,fc ⟨D3P k,fc ⟨D3Z k,fc ⟨E3y k,fc ⟨D9s k,List.forall_mem_nil _⟩⟩⟩⟩⟩⟩⟩⟩⟩⟩⟩) Tryz.func8 0 (by kernel_rfl) (fun s=>rfl) (fun k=>[]) (List.forall_mem_nil _) (fun k s0=> .nil) (F:=fun k s=>FX8 k s.1.1 s.1.2.1 s.1.2.2.1) (fun k s r h=>(e8 (A3G k) (W4 k) (M8 k) (A4b k) (z5 k) (A5J k) (n7 k) (A1C k) (j6 k) (A4I k) (A5H k) s).trans (b8 k s.1.1 s.1.2.1 s.1.2.2.1 r h)) k
theorem calls8 (a:TP) (b:TF) (c:TP) (h:∃k,FX8 k a b c=some true) (w:World) {va vb vc:Value} (ra:At0 w (.ag (.li tQ)) a va) (rb:At0 w (.li (.li tQ)) b vb) (rc:At0 w (.li tQ) c vc):
  Calls Tryz.prog 8 #[va,vb,vc] w fun e w'=>e= .returned (.bool true)∧Below w.heap.size w w':=by
 obtain⟨k,hk⟩:=h
 have hc:=ok8 k ((a,(b,(c,()))),()) true hk (.a (.v .bo true)) rfl
 exact F1V (vs:=[va,vb,vc]) Tryz.func8 (by kernel_rfl) (c:=D8.cd) (by kernel_rfl) hc (.cons ra (.cons rb (.cons rc (.nil)))) (fun w bl φ v h=>E1w h)
end Go.Proofs.YtijohnkgomcdbaaGreatV
set_option maxRecDepth 100000
namespace Go.Proofs.YtijohnkgomcdbaaGreatV
open Go Go.RowKit YtijohnkgomcdbaaGreat YtijohnkgomcdbaaGreatE YtijohnkgomcdbaaGreatN YtijohnkgomcdbaaGreat.All YtijohnkgomcdbaaGreatW.PrintWords YtijohnkgomcdbaaGreatW.PrintLast YtijohnkgomcdbaaGreatW.PrintMore
theorem E2x {m:FP} {f:List FP} (h:B1M m f 3 3=true):A6j m 4=true∧m.length≤4∧l8 m f=0:=by
 unfold B1M at h
 split at h
 ·cases h
 ·rename_i c
  split at h
  ·cases h
  ·split at h
   ·cases h
   ·rename_i c2
    have hk:A6j m 3=true:=by cases hx:A6j m 3 with|true=>rfl|false=>rw [hx]at c;exact absurd rfl c
    unfold A6j at hk⊢
    by_cases l:3+1<m.length
    ·rw [if_pos l]at hk;cases hk
    ·rw [if_neg l]at hk
     exact⟨by rw [if_neg (by omega)];exact hk,by omega,Decidable.not_not.1 c2⟩
section
variable {m x:FP} {f:List FP} (hk:l8 m f=0) (he:elt m x=0)
include hk he
theorem C4m {r:List FP} (h:Ev (fun k=>A4D k x f m) r) (hf:A4K r):Ev (fun k=>A1C k m f x) (r,(0:Int)):=by
 show Ev (fun k=>B50 (J8 k) (A4R k) (V5 k) _ _ _) _
 unfold B50
 have h1:=C5v m (l:=[f]) (by simp)
 rw [D2l,hk]at h1
 have h2:=C0b m x
 rw [he]at h2
 have h3:Ev (fun k=>A4R k (x,f,m,())) (r,(0:Int)):=by
  show Ev (fun k=>B4W (R3 k) (A4D k) _) _
  unfold B4W
  exact Ev.bind h (Ev.bind hf.large (A2P rfl (Ev.now _)))
 exact Ev.bind h1 (D6 (fun h=>h rfl) (Ev.bind h2 (D6 (fun h=>h rfl) (Ev.bind h3 (Ev.now _)))))
theorem D6M {r:FP} (h:Ev (fun k=>Y4 k m f x) r) (hf:A4K [r]):Ev (fun k=>A4I k m f x) (r,(0:Int)):=by
 show Ev (fun k=>B52 (J8 k) (Y4 k) (V5 k) (j5 k) _ _ _) _
 unfold B52
 have h1:=C5v m (l:=[f]) (by simp)
 rw [D2l,hk]at h1
 have h2:=C0b m x
 rw [he]at h2
 exact Ev.bind h1 (D6 (fun h=>h rfl) (Ev.bind h2 (D6 (fun h=>h rfl) (Ev.bind h (Ev.bind (E2y hf) (A2P rfl (Ev.now _)))))))
end
theorem D4U {a:List Rat} (h:∀q,q∈a→Sm 1024 q) (hl:a.length<1000):A4K [a.map fr]:=⟨by simp,fun b hb=>by
 rw [List.mem_singleton.1 hb]
 refine⟨by rw [List.length_map];omega,fun y hy=>?_⟩
 obtain⟨q,hq,rfl⟩:=List.mem_map.1 hy
 exact⟨q,rfl,h q hq⟩⟩
theorem E9g (m:FP) (f:List FP) (x:FP):Ev (fun k=>FX8 k m f x) true:=by
 show Ev (fun k=>B8 (A3G k) (W4 k) (M8 k) (A4b k) (z5 k) (A5J k) (n7 k) (A1C k) (j6 k) (A4I k) (A5H k) _ _ _) _
 unfold B8
 refine Ev.bind (E4f m f (n:=3) (d:=3) (by omega) (by omega)) ?_
 cases hF:B1M m f 3 3 with
 |false=>exact A4L rfl (Ev.bind C5j (Ev.now _))
 |true=>
  refine A2P rfl (Ev.bind (D5K m x) ?_)
  cases hE:A5y m x with
  |false=>exact A4L rfl (Ev.bind C5j (Ev.now _))
  |true=>
   refine A2P rfl ?_
   obtain⟨p1,p2,p3⟩:=E2x hF
   have hm:=E0n p3
   obtain⟨F,rfl,f1,f2⟩:=F3q hF
   obtain⟨M,rfl,hM,_,m2⟩:=E3W p1
   rw [List.length_map]at p2
   have f3:∀a,a∈F→(∀q,q∈a→Sm 8 q)∧Tr a∧a.length<M.length:=fun a ha=>by
    have:=f1 a ha
    rw [List.length_map]at this
    exact this
   have hx:∃X,x=X.map fr∧F5Q (M.length-1) X:=by
    unfold A5y at hE
    rw [if_pos hm]at hE
    split at hE
    ·rename_i c
     obtain⟨X,rfl,h1,h2,h3⟩:=D7r hE
     rw [List.length_map,List.length_map]at c
     exact⟨X,rfl,h1,h3,c⟩
    ·cases hE
   obtain⟨X,rfl,x1,x2,x3⟩:=hx
   have hp:0<M.length:=by omega
   have hMd:Md M:=⟨m2,hM.pz.tr⟩
   obtain⟨D,d0,dS,dF⟩:=E3u (F:=F) ⟨by omega,fun a ha=>⟨(f3 a ha).1,(f3 a ha).2.1,by have:=(f3 a ha).2.2;omega⟩⟩
   have hPF:∀i,Pz D 169 (M.length-1) (C3 F i):=fun i=>by
    refine⟨?_,(dF i).tr,(dF i).cs⟩
    rcases Nat.lt_or_ge i F.length with h|h
    ·have:=(f3 _ (C3W h)).2.2;omega
    ·rw [A3K h];exact Nat.zero_le _
   obtain⟨E,e0,eS,eX⟩:=C5U x1
   have hX:Pz E 33 (M.length-1) X:=Pz.of x3 x2 fun q hq=>(eX q hq).mono (by omega)
   have hX40:Pz E 40 (M.length-1) X:=hX.mono (by decide) (Nat.le_refl _)
   have hN:Pz E 40 (M.length-1) (o9 [] X):=(((Pz.nil (D:=E) (s:=33) (B:=M.length-1)).sub e0 hX (Nat.le_refl _) (Nat.le_refl _))).mono (by decide) (by omega)
   have hXX:Pz E 40 (M.length-1) (E5 X X):=(hX.add e0 hX (Nat.le_refl _) (Nat.le_refl _)).mono (by decide) (by omega)
   have eS':(B2 E).size≤39:=by omega
   have lF7:F.length≤7:=by omega
   have sE:∀{a:List Rat},Pz E 40 (M.length-1) a→∀q,q∈a→Sm 1024 q:=fun h q hq=>(h.mem hq).sm e0 (by decide) (by omega)
   have elok:∀{a:List Rat},Pz E 40 (M.length-1) a→elt (M.map fr) (a.map fr)=0:=fun h=>D4g h.tr (sE h) (by have:=h.len;omega) (by rw [List.length_map];have:=h.len;omega)
   obtain⟨s1,s2⟩:=sh2 hM p2 m2 d0 e0 hPF hX40 lF7 dS eS' (by decide) (by decide) F.length lF7
   have sn:=A2f hM p2 m2 d0 e0 hPF hX40 lF7 dS eS' (by decide) (by decide) F.length
   have sz:=A8I hM p2 m2 d0 e0 hPF hX40 lF7 dS eS' (by decide) (by decide) F.length
   have sEv:=C2A hM p2 m2 d0 e0 hPF hX40 lF7 dS eS' (by decide) (by decide)
   have hPS:∀i,Pz (D*E^F.length) 490 (M.length-1) (C3 (sh M F (D5 X) F.length) i):=fun i=>(s2 i).mono (by omega) (Nat.le_refl _)
   have sOk:Ok M.length (sh M F (D5 X) F.length):=B1e hp sn (by omega) hPS (C1U M F (D5 X) _) (by omega) (by decide)
   have ml:(M.map fr).length=M.length:=List.length_map ..
   have sK:l8 (M.map fr) (fm (sh M F (D5 X) F.length))=0:=Ok.ck0 (by rw [ml];exact sOk) hm
   generalize hS:sh M F (D5 X) F.length=S at*
   have lS7:S.length≤7:=by omega
   have bS:(B2 (D*E^F.length)).size≤318:=by omega
   have bEv:=C2A hM p2 m2 sn e0 hPS hN lS7 bS eS' (by decide) (by decide)
   obtain⟨b1,b2⟩:=sh2 hM p2 m2 sn e0 hPS hN lS7 bS eS' (by decide) (by decide) S.length lS7
   have bn:=A2f hM p2 m2 sn e0 hPS hN lS7 bS eS' (by decide) (by decide) S.length
   have bz:=A8I hM p2 m2 sn e0 hPS hN lS7 bS eS' (by decide) (by decide) S.length
   have fOk:Ok M.length F:=by
    refine B1e hp d0 (by omega) hPF ?_ (by omega) (by decide)
    intro a ha e
    have h0:=p3
    unfold l8 fck at h0
    rw [if_neg (fun x=>x hm),S1,if_neg (by omega)]at h0
    obtain⟨_,h1⟩:=D0B h0
    unfold A8B at h1
    rw [List.getLast?_map,ha,e]at h1
    exact absurd h1 (by decide)
   have bOk:Ok M.length (sh M S (D5 (o9 [] X)) S.length):=B1e hp bn (by omega) (fun i=>(b2 i).mono (t:=1024) (by omega) (Nat.le_refl _)) (C1U M S _ _) (by omega) (Nat.le_refl _)
   have bEq:sh M S (D5 (o9 [] X)) S.length=F:=C6V hMd (bOk.rd hp) (fOk.rd hp) (by
    have:=E1u hMd F X
    rwa [hS]at this)
   rw [bEq]at bEv
   have vP:=vl2 hM p2 m2 sn e0 hPS hX40 lS7 bS eS' (by decide) (by decide) S.length lS7
   have vn:=A2f hM p2 m2 sn e0 hPS hX40 lS7 bS eS' (by decide) (by decide) S.length
   have vz:=A8I hM p2 m2 sn e0 hPS hX40 lS7 bS eS' (by decide) (by decide) S.length
   have vEv:=D5I hM p2 m2 sn e0 hPS hX40 lS7 bS eS' (by decide) (by decide)
   have vF:∀q,q∈vl M S X S.length→Sm 1024 q:=fun q hq=>(vP.mem hq).sm vn (by omega) (by omega)
   have vL:=vP.len
   have wP:=vl2 hM p2 m2 d0 e0 hPF hXX lF7 dS eS' (by decide) (by decide) F.length lF7
   have wn:=A2f hM p2 m2 d0 e0 hPF hXX lF7 dS eS' (by decide) (by decide) F.length
   have wz:=A8I hM p2 m2 d0 e0 hPF hXX lF7 dS eS' (by decide) (by decide) F.length
   have wEv:=D5I hM p2 m2 d0 e0 hPF hXX lF7 dS eS' (by decide) (by decide)
   have wF:∀q,q∈vl M F (E5 X X) F.length→Sm 1024 q:=fun q hq=>(wP.mem hq).sm wn (by omega) (by omega)
   have wL:=wP.len
   have vEq:vl M S X S.length=vl M F (E5 X X) F.length:=by
    have h:=congrArg Subtype.val (E1H hMd F X)
    rw [hS]at h
    rwa [B6L hMd vP.tr (by omega),B6L hMd wP.tr (by omega)]at h
   have qP:=B8Q hM p2 m2 d0 d0 hPF hPF lF7
   have qd:(B2 (D*D)).size≤322:=Nat.le_trans (b7 dS dS) (by decide)
   have q0:=f7 d0 d0
   have qL:=B1I (F.length+F.length-1) fun m=>D4 (F3 F F m F.length) M
   have qL7:(G7 M F F).length≤7:=Nat.le_trans qL (by omega)
   have qEv:=F2M hM d0 d0 hPF hPF (by omega) (by omega) (by omega) (by omega) (by omega)
   have qOk:Ok M.length (G7 M F F):=B1e hp q0 (by omega) (fun i=>(qP i).mono (t:=1024) (by decide) (Nat.le_refl _)) (C4J _) (by omega) (Nat.le_refl _)
   have qK:l8 (M.map fr) (fm (G7 M F F))=0:=Ok.ck0 (by rw [ml];exact qOk) hm
   have qP':∀i,Pz (D*D) 400 (M.length-1) (C3 (G7 M F F) i):=fun i=>(qP i).mono (by decide) (Nat.le_refl _)
   generalize hQ:G7 M F F=Q at*
   have rEv:=C2A hM p2 m2 q0 e0 qP' hX40 qL7 qd eS' (by decide) (by decide)
   obtain⟨r1,r2⟩:=sh2 hM p2 m2 q0 e0 qP' hX40 qL7 qd eS' (by decide) (by decide) Q.length qL7
   have rn:=A2f hM p2 m2 q0 e0 qP' hX40 qL7 qd eS' (by decide) (by decide) Q.length
   have rz:=A8I hM p2 m2 q0 e0 qP' hX40 qL7 qd eS' (by decide) (by decide) Q.length
   have rOk:Ok M.length (sh M Q (D5 X) Q.length):=B1e hp rn (by omega) (fun i=>(r2 i).mono (t:=1024) (by omega) (Nat.le_refl _)) (C1U M Q _ _) (by omega) (Nat.le_refl _)
   have tP:=B8Q hM p2 m2 sn sn hPS hPS lS7
   have t0:=f7 sn sn
   have td:(B2 (D*E^F.length*(D*E^F.length))).size≤636:=Nat.le_trans (b7 bS bS) (by decide)
   have tL:=B1I (S.length+S.length-1) fun m=>D4 (F3 S S m S.length) M
   have tEv:=D7d hM sn sn hPS hPS (by omega) (by omega) (by omega) (by omega) (by omega)
   have tOk:Ok M.length (G7 M S S):=B1e hp t0 (Nat.le_trans tL (by omega)) (fun i=>(tP i).mono (t:=1024) (by decide) (Nat.le_refl _)) (C4J _) (by omega) (Nat.le_refl _)
   have tEq:sh M Q (D5 X) Q.length=G7 M S S:=C6V hMd (rOk.rd hp) (tOk.rd hp) (by
    have:=F4y hMd F X
    rwa [hS,hQ]at this)
   have c1:=C4m p3 (elok hX40) sEv (sOk.fine (by omega))
   have c2:=D4i (f:=[]) (g:=X) Sl.nil ⟨by omega,fun q hq=>((sE hX40) q hq).mono (by decide)⟩
   have c3:=C4m sK (elok hN) bEv (fOk.fine (by omega))
   have c4:=D6M sK (elok hX40) vEv (D4U vF (by omega))
   have slX:Sl X:=⟨by omega,fun q hq=>((sE hX40) q hq).mono (by decide)⟩
   have c5:=B9Z slX slX
   have c6:=D6M p3 (elok hXX) wEv (D4U wF (by omega))
   have c7:=C4m qK (elok hX40) rEv (rOk.fine (by omega))
   have c8:Ev (fun k=>A5H k (M.map fr) (fm S) (fm S)) (fm (G7 M S S),(0:Int)):=by
    show Ev (fun k=>B53 (J8 k) (A4O k) _ _ _) _
    unfold B53
    have h1:=C5v (M.map fr) (l:=[fm S,fm S]) (by simp)
    rw [E9T,D6l (ck:=id) fun y hy=>by
     rcases List.mem_cons.1 hy with rfl|hy
     ·exact sK
     ·rw [List.mem_singleton.1 hy];exact sK]at h1
    have h2:Ev (fun k=>A4O k (M.map fr,fm S,fm S,())) (fm (G7 M S S),(0:Int)):=by
     show Ev (fun k=>B4A (R3 k) (A4m k) _) _
     unfold B4A
     have h3:Ev (fun k=>A4m k (M.map fr) (fm S) (fm S)) (fm (G7 M S S)):=Ev.bind tEv (Ev.now _)
     exact Ev.bind h3 (Ev.bind (tOk.fine (by omega)).large (A2P rfl (Ev.now _)))
    exact Ev.bind h1 (D6 (fun h=>h rfl) (Ev.bind h2 (Ev.now _)))
   rw [tEq]at c7
   rw [←vEq]at c6
   have y1:=(fOk.fine (by omega)).same
   have y2:=D7x (f:=(vl M S X S.length).map fr) (by rw [List.length_map];omega)
   have y3:=(tOk.fine (by omega)).same
   exact Ev.bind c1 (Ev.bind c2 (Ev.bind c3 (Ev.bind c4 (Ev.bind c5 (Ev.bind c6 (Ev.bind qEv (Ev.bind c7 (Ev.bind c8 (C2 (by show wrap64 (wrap64 (wrap64 (wrap64 (wrap64 ((0:Int)+0)+0)+0)+0)+0)=0;decide +kernel) (Ev.bind y1 (A4L rfl (Ev.bind y2 (A4L rfl (Ev.bind y3 (A4L rfl (Ev.bind C5j (Ev.now _)))))))))))))))))
theorem law_at (m:FP) (f:List FP) (x:FP):∃k,FX8 k m f x=some true:=(E9g m f x).rounds
end Go.Proofs.YtijohnkgomcdbaaGreatV
namespace Go.Proofs.YtijohnkgomcdbaaGreatJ
open Go Go.RowKit Go.ChangeShapes Go.WideShapes Go.ChangeAt YtijohnkgomcdbaaGreatE
theorem E4J (b:Nat):¬C7 (fun _=> .fresh) (fun _=>⟨0,0,some 0⟩) b:=by rintro⟨_,⟨_,_,_,e⟩,_⟩;cases e
def A2S (P:Program) (t:TypeId) (ty:Ty):Prop:=∀(H:Type) (enc:TypeId×Value→H) (w:World) (base:Nat) (spare:Nat→Bool) (held:Bool) (n:Nat) (cs:List Value) (x:DataW H×List MemPlace),
 DataW.trod enc P w base spare held n t cs=some x→∃y:ty.T,D7 w (C7 (fun _=> .fresh) (fun _=>⟨0,0,some 0⟩)) ty y cs
section
variable {P:Program} {t e:TypeId} {a b:Ty} {f0 f1:Field}
theorem C8H (h:P.underlying t=some .bool):A2S P t .bo:=fun H enc w base spare held n cs x hx=>by
 obtain⟨b,rfl,_⟩:=DataW.trod_bool h hx
 exact⟨b,rfl⟩
theorem B0I (h:P.underlying t=some .string):A2S P t .st:=fun H enc w base spare held n cs x hx=>by
 obtain⟨b,rfl,_⟩:=DataW.trod_string h hx
 exact⟨b,rfl⟩
theorem E3a (h:P.underlying t=some (.struct #[f0])) (o:f0.offset=0) (hc:P.cellsOf t=P.cellsOf f0.type) (r:A2S P f0.type a):A2S P t (.ag a):=fun H enc w base spare held n cs x hx=>by
 obtain⟨y0,m,_,hl,h0⟩:=trod_struct1 h hx
 rw [o,List.drop_zero,List.take_of_length_le (by omega)]at h0
 obtain⟨y,hy⟩:=r H enc w base spare held m cs y0 h0
 exact⟨y,hy⟩
theorem B1z (h:P.underlying t=some (.struct #[f0,f1])) (o0:f0.offset=0) (o1:f1.offset=P.cellsOf f0.type) (hc:P.cellsOf t=P.cellsOf f0.type+P.cellsOf f1.type) (r0:A2S P f0.type a) (r1:A2S P f1.type b):
  A2S P t (.ag (.pr a b)):=fun H enc w base spare held n cs x hx=>by
 obtain⟨y0,y1,m,_,hl,h0,h1⟩:=trod_struct2 h hx
 rw [o0,List.drop_zero]at h0
 rw [o1,List.take_of_length_le (l:=cs.drop _) (by rw [List.length_drop];omega)]at h1
 obtain⟨z0,hz0⟩:=r0 H enc w base spare held m _ y0 h0
 obtain⟨z1,hz1⟩:=r1 H enc w base spare held m _ y1 h1
 exact⟨(z0,z1),_,_,(List.take_append_drop _ cs).symm,hz0,hz1⟩
theorem F0i {b o i j:Nat}:((⟨b,o,none⟩:Addr).add i).add j=⟨b,o+i+j,none⟩:=by
 rw [Go.Deep.add_add]
 unfold Addr.add
 split
 ·rename_i h
  rw [show o+i+j=o by omega]
 ·rw [Nat.add_assoc]
theorem B5x (h:P.underlying t=some (.slice e)) (hs:P.cellsOf e=a.sz) (hp:0<a.sz) (r:A2S P e a):A2S P t (.li a):=fun H enc w base spare held n cs x hx=>by
 rcases Go.Deep.open_slice h hx with⟨rfl,_⟩| ⟨ad,len,cap,m,k,D,Pl,rfl,_,hl,_,hm,_,hx⟩
 ·exact⟨([]:List a.T),none,0,rfl,Nat.le_refl _,Or.inl rfl⟩
 ·rcases Nat.eq_zero_or_pos len with rfl|h0
  ·exact⟨([]:List a.T),some ad,cap,rfl,Nat.zero_le _,Or.inl rfl⟩
  ·have hlm:len≤m:=by rw [hm];split<;>omega
   have key:∀i,i<len→∃y:a.T,∃ci,w.cells? base (ad.add (i*a.sz)) a.sz=some ci∧D7 w (C7 (fun _=> .fresh) (fun _=>⟨0,0,some 0⟩)) a y ci:=fun i hi=>by
    obtain⟨ci,h1,h2⟩:=hx i (by omega)
    obtain⟨y,hy⟩:=r H enc w base spare held k ci _ h2
    exact⟨y,ci,by rw [←hs];exact h1,hy⟩
   obtain⟨y0,c0,k0,_⟩:=key 0 h0
   haveI:Inhabited a.T:=⟨y0⟩
   obtain⟨f,hf⟩:=Go.Deep.choose_lt (α:=a.T) key
   have hsp:ad.spot=none∧ad.block<w.heap.size:=by
    obtain⟨_,hlen,hc⟩:=World.cells?_some k0
    have h1:=hc 0 hp
    rw [Nat.zero_mul,show(ad.add 0).add 0=ad from rfl,List.getElem?_eq_getElem (by omega)]at h1
    unfold World.cell? at h1
    split at h1
    ·rename_i c el fz hh
     split at h1
     ·cases h1
     ·rename_i hsp
      exact⟨by cases hq:ad.spot with|none=>rfl|some _=>rw [hq]at hsp;exact absurd rfl hsp,by
       rcases Nat.lt_or_ge ad.block w.heap.size with h2|h2
       ·exact h2
       ·rw [Array.getElem?_eq_none h2]at hh;cases hh⟩
    ·cases h1
   obtain⟨b,o,sp⟩:=ad
   obtain⟨rfl,hb⟩:sp=none∧b<w.heap.size:=hsp
   refine⟨(List.range len).map f,some ⟨b,o,none⟩,cap,by rw [List.length_map,List.length_range],by rw [List.length_map,List.length_range];exact hl,Or.inr ⟨b,o,rfl,E4J b,hb,fun i y hy=>?_⟩⟩
   have hi:i<len:=by
    rcases Nat.lt_or_ge i len with h1|h1
    ·exact h1
    ·unfold L7 at hy
     rw [List.getElem?_eq_none (by rw [List.length_map,List.length_range];exact h1)]at hy;cases hy
   obtain⟨ci,h1,h2⟩:=hf i hi
   obtain⟨_,hlen,hc⟩:=World.cells?_some h1
   have hyf:f i=y:=by
    unfold L7 at hy
    rw [List.getElem?_map,List.getElem?_range hi]at hy
    exact Option.some.inj hy
   rw [←hyf]
   refine⟨ci,fun j v hj=>?_,h2⟩
   have hjl:j<a.sz:=by
    rcases Nat.lt_or_ge j a.sz with h3|h3
    ·exact h3
    ·rw [List.getElem?_eq_none (by omega)]at hj;cases hj
   have h4:=hc j hjl
   rw [F0i,hj]at h4
   exact h4
end
section
variable {H:Type} {enc:TypeId×Value→H} {P:Program} {w:World} {base b0:Nat} {spare:Nat→Bool} {held:Bool} {r:Reach} {t e:TypeId} {v:Value} {d:DataW H} {p:List MemPlace} {a:Ty}
theorem at_slice (ht:P.underlying t=some (.slice e)) (hr:A2S P t (.li a)) (hv:Value.okWide P w r b0 t v) (h:DataW.Trod enc P w base spare held t v d p):∃y:Ty.T (.li a),At0 w (.li a) y v:=by
 obtain⟨ad,len,cap,rfl⟩:=okWide_slice ht hv
 obtain⟨n,hn⟩:=h
 obtain⟨y,hy⟩:=hr H enc w base spare held n _ _ hn
 exact⟨y,_,hy,rfl⟩
theorem at_struct {fs:Array Field} (ht:P.underlying t=some (.struct fs)) (hr:A2S P t (.ag a)) (hv:Value.okWide P w r b0 t v) (h:DataW.Trod enc P w base spare held t v d p):∃y:Ty.T (.ag a),At0 w (.ag a) y v:=by
 obtain⟨cs,rfl,_⟩:=okWide_struct ht hv
 obtain⟨n,hn⟩:=h
 obtain⟨y,hy⟩:=hr H enc w base spare held n _ _ hn
 exact⟨y,_,hy,rfl⟩
theorem again {w w':World} (hl:laidOutB P=true) (hr:P.readableRec t=true) (hrow:t<P.types.size) (h:DataW.Trod enc P w base (fun _=>true) true t v d p)
  (hb:Below w.heap.size w w') (hlt:∀x∈p,x.block<w.heap.size):DataW.Trod enc P w' base (fun b=>decide (b<w.heap.size)) true t v d p:=
 Go.WideElems.Trod_stays hl hr hrow h (fun x hx=>by
  have:=hb.block x.block (hlt x hx)
  cases x<;>simp_all [World.sameAt,World.cell?,MemPlace.block]) (fun x hx=>by simpa using hlt x hx)
end
end Go.Proofs.YtijohnkgomcdbaaGreatJ
namespace Go.Proofs.YtijohnkgomcdbaaGreat.Pure
open Go Go.RowKit Go.Proofs.YtijohnkgomcdbaaGreatE
theorem FieldpolyShifts (a:Ty.T (.ag (.li tQ))) (b:Ty.T (.li (.li tQ))) (c:Ty.T (.li tQ)) (w:World) {va vb vc:Value}
    (ra:At0 w _ a va) (rb:At0 w _ b vb) (rc:At0 w _ c vc):
    Calls Tryz.prog 8 #[va,vb,vc] w fun e w'=>e= .returned (.bool true)∧Below w.heap.size w w':=
  Go.Proofs.YtijohnkgomcdbaaGreatV.calls8 a b c (Go.Proofs.YtijohnkgomcdbaaGreatV.law_at a b c) w ra rb rc
end Go.Proofs.YtijohnkgomcdbaaGreat.Pure
