/- Part of the proof of the statement FieldpolyArithmetic: lemmas on the model's steps, Lean functions that say what the program's functions compute, and proofs that the calls do just that. No hypothesis is added. -/
import Derived.Test.YtijohnkgomcdbaaGreatKFieldpolyArithmetic5
set_option linter.all false
set_option maxRecDepth 100000
namespace Go.Proofs.YtijohnkgomcdbaaGreatV
open Go Go.RowKit YtijohnkgomcdbaaGreat YtijohnkgomcdbaaGreatE YtijohnkgomcdbaaGreatW.PrintWords YtijohnkgomcdbaaGreatW.PrintLast YtijohnkgomcdbaaGreatW.PrintMore
theorem E6Y (k:Nat) (x4:Int) (x5:Int) (x17:(List Int)) (x18:Int) (x19:Int) (x24:Int) (x3:(List Int)):A0 (All.exact_pack.l1 (k+1) x3 x4 x5 x17 x18 x19 x24) (C9I (A2c k) (A1z k) x4 x5 x17 x18 x19 x24 x3):=by rw [All.exact_pack.l1];unfold C9I;(try simp only [A2c,A1z,A2Q,A0n,All.integer_zero.f,All.exact_stepAt.f,All.S24.f0,All.S24.f1,All.rd_T24,All.z24]);exact BR
theorem F7q (k:Nat) (x7:Int) (x3:(List Int)):A0 (All.exact_pack.l2 (k+1) x3 x7) (C9G (A2Q k) x7 x3):=by rw [All.exact_pack.l2];unfold C9G;(try simp only [A2c,A1z,A2Q,A0n,All.integer_zero.f,All.exact_stepAt.f,All.S24.f0,All.S24.f1,All.rd_T24,All.z24]);exact BR
theorem F7B (k:Nat) (x0:(List Int)):A0 (H4 k x0) (D0W (A2c k) (A0n k) x0):=by
 show A0 (All.exact_pack.f k x0) _
 unfold All.exact_pack.f;unfold D0W;(try simp only [A2c,A1z,A2Q,A0n,All.integer_zero.f,All.exact_stepAt.f,All.S24.f0,All.S24.f1,All.rd_T24,All.z24]);exact BR
theorem A6y (k:Nat):B5 Tryz.prog (A6t (H4 k)):=
 B6 B7 HM A4E (es:=fun k=>B4C (A0n k)) (fun k=>fc ⟨E7i k,fz⟩) Tryz.func223 3 (by kernel_rfl) (fun s=>rfl) (fun k=>B5H (A2c k) (A1z k) (A2Q k)) (fc ⟨fun s=>rfl,fc ⟨fun s=>rfl,fc ⟨fun s=>rfl,fz⟩⟩⟩) (fun k s0=> .cons (by kernel_rfl) (by kernel_rfl) (fun s r h=>(E7D (A2c k) (A1z k) (A2Q k) (A0n k) s0 s).trans (E0t k s.1.1 s.1.2.1 s.1.2.2.1 s.2.1 r h)) (.cons (by kernel_rfl) (by kernel_rfl) (fun s r h=>(F5P (A2c k) (A1z k) (A2Q k) (A0n k) s0 s).trans (E6Y k s.1.1 s.1.2.1 s.1.2.2.1 s.1.2.2.2.1 s.1.2.2.2.2.1 s.1.2.2.2.2.2.1 s.2.1 r h)) (.cons (by kernel_rfl) (by kernel_rfl) (fun s r h=>(E2z (A2c k) (A1z k) (A2Q k) (A0n k) s0 s).trans (F7q k s.1.1 s.2.1 r h)) (.nil)))) (F:=fun k s=>H4 k s.1.1) (fun k s r h=>(E5O (A2c k) (A1z k) (A2Q k) (A0n k) s).trans (F7B k s.1.1 r h)) k
theorem E8s (k:Nat) (x0:Int):A0 (A8c k x0) (C8M (H4 k) x0):=by
 show A0 (All.exact_NatOf.f k x0) _
 unfold All.exact_NatOf.f;unfold C8M;(try simp only [H4,All.integer_zero.f,All.exact_stepAt.f,All.S24.f0,All.S24.f1,All.rd_T24,All.z24]);exact BR
theorem E3Z (k:Nat):B5 Tryz.prog (D4i (A8c k)):=
 B6 B7 HM B7p (es:=fun k=>D6a (H4 k)) (fun k=>fc ⟨A6y k,fz⟩) Tryz.func193 0 (by kernel_rfl) (fun s=>rfl) (fun k=>[]) (fz) (fun k s0=> .nil) (F:=fun k s=>A8c k s.1.1) (fun k s r h=>(F5e (H4 k) s).trans (E8s k s.1.1 r h)) k
theorem F7d (k:Nat) (x0:Int):A0 (A5s k x0) (D0H (A8c k) x0):=by
 show A0 (All.exact_IntOf.f k x0) _
 unfold All.exact_IntOf.f;unfold D0H;(try simp only [A8c,All.integer_zero.f,All.exact_stepAt.f,All.S24.f0,All.S24.f1,All.rd_T24,All.z24]);exact BR
theorem E5A (k:Nat):B5 Tryz.prog (D1i (A5s k)):=
 B6 B7 HM B9p (es:=fun k=>D5B (A8c k)) (fun k=>fc ⟨E3Z k,fz⟩) Tryz.func150 0 (by kernel_rfl) (fun s=>rfl) (fun k=>[]) (fz) (fun k s0=> .nil) (F:=fun k s=>A5s k s.1.1) (fun k s r h=>(F4p (A8c k) s).trans (F7d k s.1.1 r h)) k
theorem b89 (k:Nat) (x0:Int):A0 (E2 k x0) (B89 (R9 k) (A5s k) x0):=A0.refl _
theorem A7J (k:Nat):B5 Tryz.prog (A6O (E2 k)):=
 B6 B7 HM D89 (es:=fun k=>D6f (R9 k) (A5s k)) (fun k=>fc ⟨C2y k,fc ⟨E5A k,fz⟩⟩) Tryz.func89 0 (by kernel_rfl) (fun s=>rfl) (fun k=>[]) (fz) (fun k s0=> .nil) (F:=fun k s=>E2 k s.1.1) (fun k s r h=>(e89 (R9 k) (A5s k) s).trans (b89 k s.1.1 r h)) k
theorem F0y (k:Nat) (x0:TQ):A0 (I5 k x0) (C2q x0):=A0.refl _
theorem B5v (k:Nat):B5 Tryz.prog (B4g (I5 k)):=
 B6 B7 HM B9I (es:=fun k=>[]) (fun k=>fz) Tryz.func152 0 (by kernel_rfl) (fun s=>rfl) (fun k=>[]) (fz) (fun k s0=> .nil) (F:=fun k s=>I5 k s.1.1) (fun k s r h=>(E8R s).trans (F0y k s.1.1 r h)) k
theorem E4l (k:Nat) (x0:ByteArray):A0 (V8 k x0) (D0s x0):=by
 show A0 (All.natural_Check.f k x0) _
 unfold All.natural_Check.f
 unfold D0s
 (try simp only [All.integer_zero.f,All.exact_stepAt.f,All.S24.f0,All.S24.f1,All.rd_T24,All.z24])
 (try simp only [E8,List.take_append_drop,List.drop_length,List.append_nil,Int.zero_sub,Int.toNat_natCast,Int.reduceToNat,Int.zero_add,List.take_zero,List.nil_append,List.append_assoc,List.length_set,W9,List.take_left,H3,bne,H6,decide_not,H0,if_true,if_false,Bool.false_eq_true,i9,m9,List.drop_zero,List.take_length,H2,F3,l9,C4,ite_not,Bool.and_eq_true,Bool.or_eq_true,Bool.not_eq_true',G7,Bool.not_eq_false',beq_iff_eq,decide_eq_true_eq,H7,G9,G4,ne_eq,H1,List.toList_toArray])
 repeat' first
 | (with_reducible refine A0.trans ((All.natural_Check.mono_l k) _ _) ?_;rw [All.natural_Check.j0];(try simp only [E8,if_true,if_false,decide_eq_true_eq,Bool.false_eq_true,decide_not,ite_not,bne,H6,beq_iff_eq,Bool.not_eq_true',G7,H1,List.toList_toArray,G9,G4,Bool.and_eq_true,Bool.or_eq_true,H7,H0,H2,All.integer_zero.f,F3,Int.toNat_natCast,Int.reduceToNat,Int.zero_sub,H3]))
 | (with_reducible exact A0.none _)
 | (with_reducible exact A0.refl _)
 | (with_reducible refine A0.posR (by with_reducible assumption) ?_)
 | (with_reducible refine A0.negR (by with_reducible assumption) ?_)
 | (with_reducible refine A0.bindR (by with_reducible assumption) ?_)
 | (with_reducible refine A0.posL (by with_reducible assumption) ?_)
 | (with_reducible refine A0.negL (by with_reducible assumption) ?_)
 | (with_reducible refine A0.iteL (fun _=>?_) (fun _=>?_))
 | (with_reducible refine A0.bindK (by with_reducible assumption) ?_)
 | (with_reducible refine A0.bindL (fun _ _=>?_))
 | (refine A0.posR (by first|decide|exact Int.le_refl _|omega|assumption) ?_)
 | (refine A0.negR (by first|decide|omega) ?_)
theorem D2H (k:Nat):B5 Tryz.prog (C7y (V8 k)):=
 B6 B7 HM B8r (es:=fun k=>[]) (fun k=>fz) Tryz.func214 0 (by kernel_rfl) (fun s=>rfl) (fun k=>[]) (fz) (fun k s0=> .nil) (F:=fun k s=>V8 k s.1.1) (fun k s r h=>(E3p s).trans (E4l k s.1.1 r h)) k
theorem E9z (k:Nat):A0 (A9A k) (C9O):=by
 show A0 (All.integer_zero.f) _
 unfold All.integer_zero.f;unfold C9O;(try simp only [All.integer_zero.f,All.exact_stepAt.f,All.S24.f0,All.S24.f1,All.rd_T24,All.z24]);exact BR
theorem F1R (k:Nat):B5 Tryz.prog (D8b (A9A k)):=
 B6 B7 HM B6J (es:=fun k=>[]) (fun k=>fz) Tryz.func243 0 (by kernel_rfl) (fun s=>rfl) (fun k=>[]) (fz) (fun k s0=> .nil) (F:=fun k s=>A9A k) (fun k s r h=>(E4j s).trans (E9z k r h)) k
theorem F2D (k:Nat) (x0:TI):A0 (t4 k x0) (C1k (V8 k) (A9A k) x0):=by
 show A0 (All.integer_Check.f k x0.1 x0.2) _
 unfold All.integer_Check.f;unfold C1k;(try simp only [V8,A9A,All.integer_zero.f,All.exact_stepAt.f,All.S24.f0,All.S24.f1,All.rd_T24,All.z24]);exact BR
theorem E7t (k:Nat):B5 Tryz.prog (D5s (t4 k)):=
 B6 B7 HM B7h (es:=fun k=>D2P (V8 k) (A9A k)) (fun k=>fc ⟨D2H k,fc ⟨F1R k,fz⟩⟩) Tryz.func213 0 (by kernel_rfl) (fun s=>rfl) (fun k=>[]) (fz) (fun k s0=> .nil) (F:=fun k s=>t4 k s.1.1) (fun k s r h=>(F6b (V8 k) (A9A k) s).trans (F2D k s.1.1 r h)) k
theorem D0S (k:Nat):B5 Tryz.prog (B7L (M1 k)):=
 B6 B7 HM B2k (es:=fun k=>[]) (fun k=>fz) Tryz.func245 1 (by kernel_rfl) (fun s=>rfl) (fun k=>C5x (A7o k)) (fc ⟨fun s=>rfl,fz⟩) (fun k s0=> .cons (by kernel_rfl) (by kernel_rfl) (fun s r h=>(E7L (A7o k) s0 s).trans (E8Y k s.1.1 s.2.1 r h)) (.nil)) (F:=fun k s=>M1 k s.2.1) (fun k s r h=>(F1Q (A7o k) s).trans (E5j k s.2.1 r h)) k
noncomputable abbrev A7P (k:Nat) (x0:ByteArray) (x12:Int) (x13:Int) (x3:(List Int)):Option V4:=All.exact_words.l0 k x0 x3 x12 x13
theorem F7c (k:Nat) (x0:ByteArray) (x12:Int) (x13:Int) (x3:(List Int)):A0 (All.exact_words.l0 (k+1) x0 x3 x12 x13) (C3D (A7P k) (M1 k) x0 x12 x13 x3):=by rw [All.exact_words.l0];unfold C3D;(try simp only [A7P,M1,All.integer_zero.f,All.exact_stepAt.f,All.S24.f0,All.S24.f1,All.rd_T24,All.z24]);exact BR
theorem E2k (k:Nat) (x0:ByteArray):A0 (I8 k x0) (C7H (A7P k) x0):=by
 show A0 (All.exact_words.f k x0) _
 unfold All.exact_words.f;unfold C7H;(try simp only [A7P,M1,All.integer_zero.f,All.exact_stepAt.f,All.S24.f0,All.S24.f1,All.rd_T24,All.z24]);exact BR
theorem B1u (k:Nat):B5 Tryz.prog (A8B (I8 k)):=
 B6 B7 HM B2X (es:=fun k=>C8x (M1 k)) (fun k=>fc ⟨D0S k,fz⟩) Tryz.func225 1 (by kernel_rfl) (fun s=>rfl) (fun k=>C9K (A7P k)) (fc ⟨fun s=>rfl,fz⟩) (fun k s0=> .cons (by kernel_rfl) (by kernel_rfl) (fun s r h=>(E1d (A7P k) (M1 k) s0 s).trans (F7c k s.1.1 s.1.2.1 s.1.2.2.1 s.2.1 r h)) (.nil)) (F:=fun k s=>I8 k s.1.1) (fun k s r h=>(E1Q (A7P k) (M1 k) s).trans (E2k k s.1.1 r h)) k
noncomputable abbrev A8E (k:Nat) (x0:(List Int)) (x1:(List Int)) (x5:Int):Option A2A:=All.exact_compareWords.l0 k x0 x1 x5
theorem F1y (k:Nat) (x0:(List Int)) (x1:(List Int)) (x5:Int):A0 (All.exact_compareWords.l0 (k+1) x0 x1 x5) (C8t (A8E k) x0 x1 x5):=by rw [All.exact_compareWords.l0];unfold C8t;(try simp only [A8E,All.integer_zero.f,All.exact_stepAt.f,All.S24.f0,All.S24.f1,All.rd_T24,All.z24]);exact BR
theorem E0q (k:Nat) (x0:(List Int)) (x1:(List Int)):A0 (A0C k x0 x1) (C1Y (A8E k) x0 x1):=by
 show A0 (All.exact_compareWords.f k x0 x1) _
 unfold All.exact_compareWords.f;unfold C1Y;(try simp only [A8E,All.integer_zero.f,All.exact_stepAt.f,All.S24.f0,All.S24.f1,All.rd_T24,All.z24]);exact BR
theorem F2x (k:Nat):B5 Tryz.prog (D3U (A0C k)):=
 B6 B7 HM B1V (es:=fun k=>[]) (fun k=>fz) Tryz.func276 1 (by kernel_rfl) (fun s=>rfl) (fun k=>D0f (A8E k)) (fc ⟨fun s=>rfl,fz⟩) (fun k s0=> .cons (by kernel_rfl) (by kernel_rfl) (fun s r h=>(F2o (A8E k) s0 s).trans (F1y k s.1.1 s.1.2.1 s.1.2.2.1 r h)) (.nil)) (F:=fun k s=>A0C k s.1.1 s.1.2.1) (fun k s r h=>(E3m (A8E k) s).trans (E0q k s.1.1 s.1.2.1 r h)) k
theorem E5m (k:Nat) (x0:Int):A0 (U9 k x0) (C3r (B3z k) x0):=by
 show A0 (All.bits_LeadingZeros64.f x0) _
 unfold All.bits_LeadingZeros64.f;unfold C3r;(try simp only [B3z,All.integer_zero.f,All.exact_stepAt.f,All.S24.f0,All.S24.f1,All.rd_T24,All.z24]);exact BR
theorem D3Y (k:Nat):B5 Tryz.prog (C1v (U9 k)):=
 B6 B7 HM B8W (es:=fun k=>D8v (B3z k)) (fun k=>fc ⟨F4c k,fz⟩) Tryz.func278 0 (by kernel_rfl) (fun s=>rfl) (fun k=>[]) (fz) (fun k s0=> .nil) (F:=fun k s=>U9 k s.1.1) (fun k s r h=>(D9x (B3z k) s).trans (E5m k s.1.1 r h)) k
noncomputable abbrev A4b (k:Nat) (x2:Int) (x8:Int) (x9:Int) (x10:Int) (x11:Int) (x13:Int) (x14:Int) (x15:Int) (x16:Int):Option f9:=All.bits_Div64.l0 k x2 x8 x9 x10 x11 x13 x14 x15 x16
noncomputable abbrev A4v (k:Nat) (x2:Int) (x8:Int) (x9:Int) (x10:Int) (x14:Int) (x15:Int) (x16:Int) (x17:Int) (x18:Int):Option f9:=All.bits_Div64.l1 k x2 x8 x9 x10 x14 x15 x16 x17 x18
theorem F2s (k:Nat) (x2:Int) (x8:Int) (x9:Int) (x10:Int) (x11:Int) (x13:Int) (x14:Int) (x15:Int) (x16:Int):A0 (All.bits_Div64.l0 (k+1) x2 x8 x9 x10 x11 x13 x14 x15 x16) (C6A (A4b k) (A4v k) x2 x8 x9 x10 x11 x13 x14 x15 x16):=by
 rw [All.bits_Div64.l0]
 unfold C6A
 (try simp only [A4b,A4v,U9,All.integer_zero.f,All.exact_stepAt.f,All.S24.f0,All.S24.f1,All.rd_T24,All.z24])
 (try simp only [E8,List.take_append_drop,List.drop_length,List.append_nil,Int.zero_sub,Int.toNat_natCast,Int.reduceToNat,Int.zero_add,List.take_zero,List.nil_append,List.append_assoc,List.length_set,W9,List.take_left,H3,bne,H6,decide_not,H0,if_true,if_false,Bool.false_eq_true,i9,m9,List.drop_zero,List.take_length,H2,F3,l9,C4,ite_not,Bool.and_eq_true,Bool.or_eq_true,Bool.not_eq_true',G7,Bool.not_eq_false',beq_iff_eq,decide_eq_true_eq,H7,G9,G4,ne_eq,H1,List.toList_toArray])
 repeat' first
 | (with_reducible refine A0.trans ((All.bits_Div64.mono_l k).2.2.2.2 _ _ _ _ _ _ _ _ _ _) ?_;rw [All.bits_Div64.j1];(try simp only [E8,if_true,if_false,decide_eq_true_eq,Bool.false_eq_true,decide_not,ite_not,bne,H6,beq_iff_eq,Bool.not_eq_true',G7,H1,List.toList_toArray,G9,G4,Bool.and_eq_true,Bool.or_eq_true,H7,H0,H2,All.integer_zero.f,F3,Int.toNat_natCast,Int.reduceToNat,Int.zero_sub,H3]))
 | (with_reducible refine A0.trans ((All.bits_Div64.mono_l k).1 _ _ _ _ _ _ _ _) ?_;rw [All.bits_Div64.j2];(try simp only [E8,if_true,if_false,decide_eq_true_eq,Bool.false_eq_true,decide_not,ite_not,bne,H6,beq_iff_eq,Bool.not_eq_true',G7,H1,List.toList_toArray,G9,G4,Bool.and_eq_true,Bool.or_eq_true,H7,H0,H2,All.integer_zero.f,F3,Int.toNat_natCast,Int.reduceToNat,Int.zero_sub,H3]))
 | (with_reducible refine A0.trans ((All.bits_Div64.mono_l k).2.2.1 _ _ _ _ _ _ _ _ _ _) ?_;rw [All.bits_Div64.j4];(try simp only [E8,if_true,if_false,decide_eq_true_eq,Bool.false_eq_true,decide_not,ite_not,bne,H6,beq_iff_eq,Bool.not_eq_true',G7,H1,List.toList_toArray,G9,G4,Bool.and_eq_true,Bool.or_eq_true,H7,H0,H2,All.integer_zero.f,F3,Int.toNat_natCast,Int.reduceToNat,Int.zero_sub,H3]))
 | (with_reducible exact A0.none _)
 | (with_reducible exact A0.refl _)
 | (with_reducible refine A0.posR (by with_reducible assumption) ?_)
 | (with_reducible refine A0.negR (by with_reducible assumption) ?_)
 | (with_reducible refine A0.bindR (by with_reducible assumption) ?_)
 | (with_reducible refine A0.posL (by with_reducible assumption) ?_)
 | (with_reducible refine A0.negL (by with_reducible assumption) ?_)
 | (with_reducible refine A0.iteL (fun _=>?_) (fun _=>?_))
 | (with_reducible refine A0.bindK (by with_reducible assumption) ?_)
 | (with_reducible refine A0.bindL (fun _ _=>?_))
 | (refine A0.posR (by first|decide|exact Int.le_refl _|omega|assumption) ?_)
 | (refine A0.negR (by first|decide|omega) ?_)
theorem E4F (k:Nat) (x2:Int) (x8:Int) (x9:Int) (x10:Int) (x14:Int) (x15:Int) (x16:Int) (x17:Int) (x18:Int):A0 (All.bits_Div64.l1 (k+1) x2 x8 x9 x10 x14 x15 x16 x17 x18) (C6B (A4v k) x2 x8 x9 x10 x14 x15 x16 x17 x18):=by
 rw [All.bits_Div64.l1]
 unfold C6B
 (try simp only [A4b,A4v,U9,All.integer_zero.f,All.exact_stepAt.f,All.S24.f0,All.S24.f1,All.rd_T24,All.z24])
 (try simp only [E8,List.take_append_drop,List.drop_length,List.append_nil,Int.zero_sub,Int.toNat_natCast,Int.reduceToNat,Int.zero_add,List.take_zero,List.nil_append,List.append_assoc,List.length_set,W9,List.take_left,H3,bne,H6,decide_not,H0,if_true,if_false,Bool.false_eq_true,i9,m9,List.drop_zero,List.take_length,H2,F3,l9,C4,ite_not,Bool.and_eq_true,Bool.or_eq_true,Bool.not_eq_true',G7,Bool.not_eq_false',beq_iff_eq,decide_eq_true_eq,H7,G9,G4,ne_eq,H1,List.toList_toArray])
 repeat' first
 | (with_reducible refine A0.trans ((All.bits_Div64.mono_l k).2.2.2.2 _ _ _ _ _ _ _ _ _ _) ?_;rw [All.bits_Div64.j1];(try simp only [E8,if_true,if_false,decide_eq_true_eq,Bool.false_eq_true,decide_not,ite_not,bne,H6,beq_iff_eq,Bool.not_eq_true',G7,H1,List.toList_toArray,G9,G4,Bool.and_eq_true,Bool.or_eq_true,H7,H0,H2,All.integer_zero.f,F3,Int.toNat_natCast,Int.reduceToNat,Int.zero_sub,H3]))
 | (with_reducible refine A0.trans ((All.bits_Div64.mono_l k).1 _ _ _ _ _ _ _ _) ?_;rw [All.bits_Div64.j2];(try simp only [E8,if_true,if_false,decide_eq_true_eq,Bool.false_eq_true,decide_not,ite_not,bne,H6,beq_iff_eq,Bool.not_eq_true',G7,H1,List.toList_toArray,G9,G4,Bool.and_eq_true,Bool.or_eq_true,H7,H0,H2,All.integer_zero.f,F3,Int.toNat_natCast,Int.reduceToNat,Int.zero_sub,H3]))
 | (with_reducible refine A0.trans ((All.bits_Div64.mono_l k).2.2.1 _ _ _ _ _ _ _ _ _ _) ?_;rw [All.bits_Div64.j4];(try simp only [E8,if_true,if_false,decide_eq_true_eq,Bool.false_eq_true,decide_not,ite_not,bne,H6,beq_iff_eq,Bool.not_eq_true',G7,H1,List.toList_toArray,G9,G4,Bool.and_eq_true,Bool.or_eq_true,H7,H0,H2,All.integer_zero.f,F3,Int.toNat_natCast,Int.reduceToNat,Int.zero_sub,H3]))
 | (with_reducible exact A0.none _)
 | (with_reducible exact A0.refl _)
 | (with_reducible refine A0.posR (by with_reducible assumption) ?_)
 | (with_reducible refine A0.negR (by with_reducible assumption) ?_)
 | (with_reducible refine A0.bindR (by with_reducible assumption) ?_)
 | (with_reducible refine A0.posL (by with_reducible assumption) ?_)
 | (with_reducible refine A0.negL (by with_reducible assumption) ?_)
 | (with_reducible refine A0.iteL (fun _=>?_) (fun _=>?_))
 | (with_reducible refine A0.bindK (by with_reducible assumption) ?_)
 | (with_reducible refine A0.bindL (fun _ _=>?_))
 | (refine A0.posR (by first|decide|exact Int.le_refl _|omega|assumption) ?_)
 | (refine A0.negR (by first|decide|omega) ?_)
theorem E6M (k:Nat) (x0:Int) (x1:Int) (x2:Int):A0 (R2 k x0 x1 x2) (D0w (A4b k) (U9 k) x0 x1 x2):=by
 show A0 (All.bits_Div64.f k x0 x1 x2) _
 unfold All.bits_Div64.f
 unfold D0w
 (try simp only [A4b,A4v,U9,All.integer_zero.f,All.exact_stepAt.f,All.S24.f0,All.S24.f1,All.rd_T24,All.z24])
 (try simp only [E8,List.take_append_drop,List.drop_length,List.append_nil,Int.zero_sub,Int.toNat_natCast,Int.reduceToNat,Int.zero_add,List.take_zero,List.nil_append,List.append_assoc,List.length_set,W9,List.take_left,H3,bne,H6,decide_not,H0,if_true,if_false,Bool.false_eq_true,i9,m9,List.drop_zero,List.take_length,H2,F3,l9,C4,ite_not,Bool.and_eq_true,Bool.or_eq_true,Bool.not_eq_true',G7,Bool.not_eq_false',beq_iff_eq,decide_eq_true_eq,H7,G9,G4,ne_eq,H1,List.toList_toArray])
 repeat' first
 | (with_reducible refine A0.trans ((All.bits_Div64.mono_l k).2.2.2.2 _ _ _ _ _ _ _ _ _ _) ?_;rw [All.bits_Div64.j1];(try simp only [E8,if_true,if_false,decide_eq_true_eq,Bool.false_eq_true,decide_not,ite_not,bne,H6,beq_iff_eq,Bool.not_eq_true',G7,H1,List.toList_toArray,G9,G4,Bool.and_eq_true,Bool.or_eq_true,H7,H0,H2,All.integer_zero.f,F3,Int.toNat_natCast,Int.reduceToNat,Int.zero_sub,H3]))
 | (with_reducible refine A0.trans ((All.bits_Div64.mono_l k).1 _ _ _ _ _ _ _ _) ?_;rw [All.bits_Div64.j2];(try simp only [E8,if_true,if_false,decide_eq_true_eq,Bool.false_eq_true,decide_not,ite_not,bne,H6,beq_iff_eq,Bool.not_eq_true',G7,H1,List.toList_toArray,G9,G4,Bool.and_eq_true,Bool.or_eq_true,H7,H0,H2,All.integer_zero.f,F3,Int.toNat_natCast,Int.reduceToNat,Int.zero_sub,H3]))
 | (with_reducible refine A0.trans ((All.bits_Div64.mono_l k).2.2.1 _ _ _ _ _ _ _ _ _ _) ?_;rw [All.bits_Div64.j4];(try simp only [E8,if_true,if_false,decide_eq_true_eq,Bool.false_eq_true,decide_not,ite_not,bne,H6,beq_iff_eq,Bool.not_eq_true',G7,H1,List.toList_toArray,G9,G4,Bool.and_eq_true,Bool.or_eq_true,H7,H0,H2,All.integer_zero.f,F3,Int.toNat_natCast,Int.reduceToNat,Int.zero_sub,H3]))
 | (with_reducible exact A0.none _)
 | (with_reducible exact A0.refl _)
 | (with_reducible refine A0.posR (by with_reducible assumption) ?_)
 | (with_reducible refine A0.negR (by with_reducible assumption) ?_)
 | (with_reducible refine A0.bindR (by with_reducible assumption) ?_)
 | (with_reducible refine A0.posL (by with_reducible assumption) ?_)
 | (with_reducible refine A0.negL (by with_reducible assumption) ?_)
 | (with_reducible refine A0.iteL (fun _=>?_) (fun _=>?_))
 | (with_reducible refine A0.bindK (by with_reducible assumption) ?_)
 | (with_reducible refine A0.bindL (fun _ _=>?_))
 | (refine A0.posR (by first|decide|exact Int.le_refl _|omega|assumption) ?_)
 | (refine A0.negR (by first|decide|omega) ?_)
theorem D3E (k:Nat):B5 Tryz.prog (C6L (R2 k)):=
 B6 B7 HM A6U (es:=fun k=>B7t (U9 k)) (fun k=>fc ⟨D3Y k,fz⟩) Tryz.func277 2 (by kernel_rfl) (fun s=>rfl) (fun k=>B7r (A4b k) (A4v k)) (fc ⟨fun s=>rfl,fc ⟨fun s=>rfl,fz⟩⟩) (fun k s0=> .cons (by kernel_rfl) (by kernel_rfl) (fun s r h=>(F2a (A4b k) (A4v k) (U9 k) s0 s).trans (F2s k s.1.1 s.1.2.1 s.1.2.2.1 s.1.2.2.2.1 s.1.2.2.2.2.1 s.1.2.2.2.2.2.1 s.1.2.2.2.2.2.2.1 s.1.2.2.2.2.2.2.2.1 s.1.2.2.2.2.2.2.2.2.1 r h)) (.cons (by kernel_rfl) (by kernel_rfl) (fun s r h=>(F6z (A4b k) (A4v k) (U9 k) s0 s).trans (E4F k s.1.1 s.1.2.1 s.1.2.2.1 s.1.2.2.2.1 s.1.2.2.2.2.1 s.1.2.2.2.2.2.1 s.1.2.2.2.2.2.2.1 s.1.2.2.2.2.2.2.2.1 s.1.2.2.2.2.2.2.2.2.1 r h)) (.nil))) (F:=fun k s=>R2 k s.1.1 s.1.2.1 s.1.2.2.1) (fun k s r h=>(F2F (A4b k) (A4v k) (U9 k) s).trans (E6M k s.1.1 s.1.2.1 s.1.2.2.1 r h)) k
noncomputable abbrev A8l (k:Nat) (x1:Int) (x12:(List Int)) (x13:Int) (x14:Int) (x5:(List Int)):Option A2u:=All.exact_shiftUp.l0 k x1 x5 x12 x13 x14
theorem F3a (k:Nat) (x1:Int) (x12:(List Int)) (x13:Int) (x14:Int) (x5:(List Int)):A0 (All.exact_shiftUp.l0 (k+1) x1 x5 x12 x13 x14) (D0V (A8l k) x1 x12 x13 x14 x5):=by rw [All.exact_shiftUp.l0];unfold D0V;(try simp only [A8l,All.integer_zero.f,All.exact_stepAt.f,All.S24.f0,All.S24.f1,All.rd_T24,All.z24]);exact BR
theorem E9u (k:Nat) (x0:(List Int)) (x1:Int):A0 (A1C k x0 x1) (C7o (A8l k) x0 x1):=by
 show A0 (All.exact_shiftUp.f k x0 x1) _
 unfold All.exact_shiftUp.f;unfold C7o;(try simp only [A8l,All.integer_zero.f,All.exact_stepAt.f,All.S24.f0,All.S24.f1,All.rd_T24,All.z24]);exact BR
theorem F4R (k:Nat):B5 Tryz.prog (D3i (A1C k)):=
 B6 B7 HM A9r (es:=fun k=>[]) (fun k=>fz) Tryz.func279 1 (by kernel_rfl) (fun s=>rfl) (fun k=>C4B (A8l k)) (fc ⟨fun s=>rfl,fz⟩) (fun k s0=> .cons (by kernel_rfl) (by kernel_rfl) (fun s r h=>(E3V (A8l k) s0 s).trans (F3a k s.1.1 s.1.2.1 s.1.2.2.1 s.1.2.2.2.1 s.2.1 r h)) (.nil)) (F:=fun k s=>A1C k s.1.1 s.1.2.1) (fun k s r h=>(E9V (A8l k) s).trans (E9u k s.1.1 s.1.2.1 r h)) k
theorem E4p (k:Nat) (x0:Int) (x1:Int):A0 (R6 k x0 x1) (D0T x0 x1):=by
 show A0 (All.bits_Mul64.f x0 x1) _
 unfold All.bits_Mul64.f;unfold D0T;(try simp only [All.integer_zero.f,All.exact_stepAt.f,All.S24.f0,All.S24.f1,All.rd_T24,All.z24]);exact BR
theorem D8H (k:Nat):B5 Tryz.prog (C4R (R6 k)):=
 B6 B7 HM B6i (es:=fun k=>[]) (fun k=>fz) Tryz.func246 0 (by kernel_rfl) (fun s=>rfl) (fun k=>[]) (fz) (fun k s0=> .nil) (F:=fun k s=>R6 k s.1.1 s.1.2.1) (fun k s r h=>(F6s s).trans (E4p k s.1.1 s.1.2.1 r h)) k
noncomputable abbrev A1i (k:Nat) (x1:(List Int)) (x5:Int) (x6:Int) (x7:Int) (x8:Int) (y0:(List Int)):Option X1:=All.exact_step.l0 k y0 x1 x5 x6 x7 x8
noncomputable abbrev A1w (k:Nat) (x1:(List Int)) (x5:Int) (x6:Int) (x11:Int) (x12:Int) (x104:Int) (x105:Int) (y0:(List Int)):Option X1:=All.exact_step.l1 k y0 x1 x5 x6 x11 x12 x104 x105
noncomputable abbrev A1r (k:Nat) (x1:(List Int)) (x5:Int) (x6:Int) (x17:Int) (x156:Int) (x157:Int) (y0:(List Int)):Option X1:=All.exact_step.l2 k y0 x1 x5 x6 x17 x156 x157
theorem E6s (k:Nat) (x1:(List Int)) (x5:Int) (x6:Int) (x7:Int) (x8:Int) (y0:(List Int)):A0 (All.exact_step.l0 (k+1) y0 x1 x5 x6 x7 x8) (C9l (A1i k) (A1w k) (R6 k) (M8 k) x1 x5 x6 x7 x8 y0):=by
 rw [All.exact_step.l0]
 unfold C9l
 (try simp only [A1i,A1w,A1r,R6,M8,d5,R2,All.integer_zero.f,All.exact_stepAt.f,All.S24.f0,All.S24.f1,All.rd_T24,All.z24])
 (try simp only [E8,List.take_append_drop,List.drop_length,List.append_nil,Int.zero_sub,Int.toNat_natCast,Int.reduceToNat,Int.zero_add,List.take_zero,List.nil_append,List.append_assoc,List.length_set,W9,List.take_left,H3,bne,H6,decide_not,H0,if_true,if_false,Bool.false_eq_true,i9,m9,List.drop_zero,List.take_length,H2,F3,l9,C4,ite_not,Bool.and_eq_true,Bool.or_eq_true,Bool.not_eq_true',G7,Bool.not_eq_false',beq_iff_eq,decide_eq_true_eq,H7,G9,G4,ne_eq,H1,List.toList_toArray])
 repeat' first
 | (with_reducible refine A0.trans ((All.exact_step.mono_l k).1 _ _ _ _ _ _) ?_;rw [All.exact_step.j0];(try simp only [E8,if_true,if_false,decide_eq_true_eq,Bool.false_eq_true,decide_not,ite_not,bne,H6,beq_iff_eq,Bool.not_eq_true',G7,H1,List.toList_toArray,G9,G4,Bool.and_eq_true,Bool.or_eq_true,H7,H0,H2,All.integer_zero.f,F3,Int.toNat_natCast,Int.reduceToNat,Int.zero_sub,H3]))
 | (with_reducible refine A0.trans ((All.exact_step.mono_l k).2.1 _ _ _ _) ?_;rw [All.exact_step.j2];(try simp only [E8,if_true,if_false,decide_eq_true_eq,Bool.false_eq_true,decide_not,ite_not,bne,H6,beq_iff_eq,Bool.not_eq_true',G7,H1,List.toList_toArray,G9,G4,Bool.and_eq_true,Bool.or_eq_true,H7,H0,H2,All.integer_zero.f,F3,Int.toNat_natCast,Int.reduceToNat,Int.zero_sub,H3]))
 | (with_reducible exact A0.none _)
 | (with_reducible exact A0.refl _)
 | (with_reducible refine A0.posR (by with_reducible assumption) ?_)
 | (with_reducible refine A0.negR (by with_reducible assumption) ?_)
 | (with_reducible refine A0.bindR (by with_reducible assumption) ?_)
 | (with_reducible refine A0.posL (by with_reducible assumption) ?_)
 | (with_reducible refine A0.negL (by with_reducible assumption) ?_)
 | (with_reducible refine A0.iteL (fun _=>?_) (fun _=>?_))
 | (with_reducible refine A0.bindK (by with_reducible assumption) ?_)
 | (with_reducible refine A0.bindL (fun _ _=>?_))
 | (refine A0.posR (by first|decide|exact Int.le_refl _|omega|assumption) ?_)
 | (refine A0.negR (by first|decide|omega) ?_)
theorem F6V (k:Nat) (x1:(List Int)) (x5:Int) (x6:Int) (x11:Int) (x12:Int) (x104:Int) (x105:Int) (y0:(List Int)):A0 (All.exact_step.l1 (k+1) y0 x1 x5 x6 x11 x12 x104 x105) (C9R (A1w k) (A1r k) (R6 k) (M8 k) (d5 k) x1 x5 x6 x11 x12 x104 x105 y0):=by
 rw [All.exact_step.l1]
 unfold C9R
 (try simp only [A1i,A1w,A1r,R6,M8,d5,R2,All.integer_zero.f,All.exact_stepAt.f,All.S24.f0,All.S24.f1,All.rd_T24,All.z24])
 (try simp only [E8,List.take_append_drop,List.drop_length,List.append_nil,Int.zero_sub,Int.toNat_natCast,Int.reduceToNat,Int.zero_add,List.take_zero,List.nil_append,List.append_assoc,List.length_set,W9,List.take_left,H3,bne,H6,decide_not,H0,if_true,if_false,Bool.false_eq_true,i9,m9,List.drop_zero,List.take_length,H2,F3,l9,C4,ite_not,Bool.and_eq_true,Bool.or_eq_true,Bool.not_eq_true',G7,Bool.not_eq_false',beq_iff_eq,decide_eq_true_eq,H7,G9,G4,ne_eq,H1,List.toList_toArray])
 repeat' first
 | (with_reducible refine A0.trans ((All.exact_step.mono_l k).1 _ _ _ _ _ _) ?_;rw [All.exact_step.j0];(try simp only [E8,if_true,if_false,decide_eq_true_eq,Bool.false_eq_true,decide_not,ite_not,bne,H6,beq_iff_eq,Bool.not_eq_true',G7,H1,List.toList_toArray,G9,G4,Bool.and_eq_true,Bool.or_eq_true,H7,H0,H2,All.integer_zero.f,F3,Int.toNat_natCast,Int.reduceToNat,Int.zero_sub,H3]))
 | (with_reducible refine A0.trans ((All.exact_step.mono_l k).2.1 _ _ _ _) ?_;rw [All.exact_step.j2];(try simp only [E8,if_true,if_false,decide_eq_true_eq,Bool.false_eq_true,decide_not,ite_not,bne,H6,beq_iff_eq,Bool.not_eq_true',G7,H1,List.toList_toArray,G9,G4,Bool.and_eq_true,Bool.or_eq_true,H7,H0,H2,All.integer_zero.f,F3,Int.toNat_natCast,Int.reduceToNat,Int.zero_sub,H3]))
 | (with_reducible exact A0.none _)
 | (with_reducible exact A0.refl _)
 | (with_reducible refine A0.posR (by with_reducible assumption) ?_)
 | (with_reducible refine A0.negR (by with_reducible assumption) ?_)
 | (with_reducible refine A0.bindR (by with_reducible assumption) ?_)
 | (with_reducible refine A0.posL (by with_reducible assumption) ?_)
 | (with_reducible refine A0.negL (by with_reducible assumption) ?_)
 | (with_reducible refine A0.iteL (fun _=>?_) (fun _=>?_))
 | (with_reducible refine A0.bindK (by with_reducible assumption) ?_)
 | (with_reducible refine A0.bindL (fun _ _=>?_))
 | (refine A0.posR (by first|decide|exact Int.le_refl _|omega|assumption) ?_)
 | (refine A0.negR (by first|decide|omega) ?_)
theorem F1U (k:Nat) (x1:(List Int)) (x5:Int) (x6:Int) (x17:Int) (x156:Int) (x157:Int) (y0:(List Int)):A0 (All.exact_step.l2 (k+1) y0 x1 x5 x6 x17 x156 x157) (C8T (A1r k) (M8 k) x1 x5 x6 x17 x156 x157 y0):=by
 rw [All.exact_step.l2]
 unfold C8T
 (try simp only [A1i,A1w,A1r,R6,M8,d5,R2,All.integer_zero.f,All.exact_stepAt.f,All.S24.f0,All.S24.f1,All.rd_T24,All.z24])
 (try simp only [E8,List.take_append_drop,List.drop_length,List.append_nil,Int.zero_sub,Int.toNat_natCast,Int.reduceToNat,Int.zero_add,List.take_zero,List.nil_append,List.append_assoc,List.length_set,W9,List.take_left,H3,bne,H6,decide_not,H0,if_true,if_false,Bool.false_eq_true,i9,m9,List.drop_zero,List.take_length,H2,F3,l9,C4,ite_not,Bool.and_eq_true,Bool.or_eq_true,Bool.not_eq_true',G7,Bool.not_eq_false',beq_iff_eq,decide_eq_true_eq,H7,G9,G4,ne_eq,H1,List.toList_toArray])
 repeat' first
 | (with_reducible refine A0.trans ((All.exact_step.mono_l k).1 _ _ _ _ _ _) ?_;rw [All.exact_step.j0];(try simp only [E8,if_true,if_false,decide_eq_true_eq,Bool.false_eq_true,decide_not,ite_not,bne,H6,beq_iff_eq,Bool.not_eq_true',G7,H1,List.toList_toArray,G9,G4,Bool.and_eq_true,Bool.or_eq_true,H7,H0,H2,All.integer_zero.f,F3,Int.toNat_natCast,Int.reduceToNat,Int.zero_sub,H3]))
 | (with_reducible refine A0.trans ((All.exact_step.mono_l k).2.1 _ _ _ _) ?_;rw [All.exact_step.j2];(try simp only [E8,if_true,if_false,decide_eq_true_eq,Bool.false_eq_true,decide_not,ite_not,bne,H6,beq_iff_eq,Bool.not_eq_true',G7,H1,List.toList_toArray,G9,G4,Bool.and_eq_true,Bool.or_eq_true,H7,H0,H2,All.integer_zero.f,F3,Int.toNat_natCast,Int.reduceToNat,Int.zero_sub,H3]))
 | (with_reducible exact A0.none _)
 | (with_reducible exact A0.refl _)
 | (with_reducible refine A0.posR (by with_reducible assumption) ?_)
 | (with_reducible refine A0.negR (by with_reducible assumption) ?_)
 | (with_reducible refine A0.bindR (by with_reducible assumption) ?_)
 | (with_reducible refine A0.posL (by with_reducible assumption) ?_)
 | (with_reducible refine A0.negL (by with_reducible assumption) ?_)
 | (with_reducible refine A0.iteL (fun _=>?_) (fun _=>?_))
 | (with_reducible refine A0.bindK (by with_reducible assumption) ?_)
 | (with_reducible refine A0.bindL (fun _ _=>?_))
 | (refine A0.posR (by first|decide|exact Int.le_refl _|omega|assumption) ?_)
 | (refine A0.negR (by first|decide|omega) ?_)
theorem F4j (k:Nat) (x1:(List Int)) (y0:(List Int)):A0 (A0r k x1 y0) (C1n (A1i k) (M8 k) (R2 k) x1 y0):=by
 show A0 (All.exact_step.f k y0 x1) _
 unfold All.exact_step.f
 unfold C1n
 (try simp only [A1i,A1w,A1r,R6,M8,d5,R2,All.integer_zero.f,All.exact_stepAt.f,All.S24.f0,All.S24.f1,All.rd_T24,All.z24])
 (try simp only [E8,List.take_append_drop,List.drop_length,List.append_nil,Int.zero_sub,Int.toNat_natCast,Int.reduceToNat,Int.zero_add,List.take_zero,List.nil_append,List.append_assoc,List.length_set,W9,List.take_left,H3,bne,H6,decide_not,H0,if_true,if_false,Bool.false_eq_true,i9,m9,List.drop_zero,List.take_length,H2,F3,l9,C4,ite_not,Bool.and_eq_true,Bool.or_eq_true,Bool.not_eq_true',G7,Bool.not_eq_false',beq_iff_eq,decide_eq_true_eq,H7,G9,G4,ne_eq,H1,List.toList_toArray])
 repeat' first
 | (with_reducible refine A0.trans ((All.exact_step.mono_l k).1 _ _ _ _ _ _) ?_;rw [All.exact_step.j0];(try simp only [E8,if_true,if_false,decide_eq_true_eq,Bool.false_eq_true,decide_not,ite_not,bne,H6,beq_iff_eq,Bool.not_eq_true',G7,H1,List.toList_toArray,G9,G4,Bool.and_eq_true,Bool.or_eq_true,H7,H0,H2,All.integer_zero.f,F3,Int.toNat_natCast,Int.reduceToNat,Int.zero_sub,H3]))
 | (with_reducible refine A0.trans ((All.exact_step.mono_l k).2.1 _ _ _ _) ?_;rw [All.exact_step.j2];(try simp only [E8,if_true,if_false,decide_eq_true_eq,Bool.false_eq_true,decide_not,ite_not,bne,H6,beq_iff_eq,Bool.not_eq_true',G7,H1,List.toList_toArray,G9,G4,Bool.and_eq_true,Bool.or_eq_true,H7,H0,H2,All.integer_zero.f,F3,Int.toNat_natCast,Int.reduceToNat,Int.zero_sub,H3]))
 | (with_reducible exact A0.none _)
 | (with_reducible exact A0.refl _)
 | (with_reducible refine A0.posR (by with_reducible assumption) ?_)
 | (with_reducible refine A0.negR (by with_reducible assumption) ?_)
 | (with_reducible refine A0.bindR (by with_reducible assumption) ?_)
 | (with_reducible refine A0.posL (by with_reducible assumption) ?_)
 | (with_reducible refine A0.negL (by with_reducible assumption) ?_)
 | (with_reducible refine A0.iteL (fun _=>?_) (fun _=>?_))
 | (with_reducible refine A0.bindK (by with_reducible assumption) ?_)
 | (with_reducible refine A0.bindL (fun _ _=>?_))
 | (refine A0.posR (by first|decide|exact Int.le_refl _|omega|assumption) ?_)
 | (refine A0.negR (by first|decide|omega) ?_)
theorem F4o (k:Nat):B5 Tryz.prog (D7N (A0r k)):=
 B6 B7 HM A4A (es:=fun k=>B4y (R6 k) (M8 k) (d5 k) (R2 k)) (fun k=>fc ⟨D8H k,fc ⟨C5a k,fc ⟨D1M k,fc ⟨D3E k,fz⟩⟩⟩⟩) Tryz.func280 3 (by kernel_rfl) (fun s=>rfl) (fun k=>B3C (A1i k) (A1w k) (A1r k)) (fc ⟨fun s=>rfl,fc ⟨fun s=>rfl,fc ⟨fun s=>rfl,fz⟩⟩⟩) (fun k s0=> .cons (by kernel_rfl) (by kernel_rfl) (fun s r h=>(F1E (A1i k) (A1w k) (A1r k) (R6 k) (M8 k) (d5 k) (R2 k) s0 s).trans (E6s k s.1.1 s.1.2.1 s.1.2.2.1 s.1.2.2.2.1 s.1.2.2.2.2.1 s.2.1 r h)) (.cons (by kernel_rfl) (by kernel_rfl) (fun s r h=>(E9L (A1i k) (A1w k) (A1r k) (R6 k) (M8 k) (d5 k) (R2 k) s0 s).trans (F6V k s.1.1 s.1.2.1 s.1.2.2.1 s.1.2.2.2.1 s.1.2.2.2.2.1 s.1.2.2.2.2.2.1 s.1.2.2.2.2.2.2.1 s.2.1 r h)) (.cons (by kernel_rfl) (by kernel_rfl) (fun s r h=>(E2J (A1i k) (A1w k) (A1r k) (R6 k) (M8 k) (d5 k) (R2 k) s0 s).trans (F1U k s.1.1 s.1.2.1 s.1.2.2.1 s.1.2.2.2.1 s.1.2.2.2.2.1 s.1.2.2.2.2.2.1 s.2.1 r h)) (.nil)))) (F:=fun k s=>A0r k s.1.1 s.2.1) (fun k s r h=>(F5Q (A1i k) (A1w k) (A1r k) (R6 k) (M8 k) (d5 k) (R2 k) s).trans (F4j k s.1.1 s.2.1 r h)) k
noncomputable abbrev A1n (k:Nat) (x0:(List Int)) (x1:(List Int)) (x7:Int) (x8:Int) (x6:(List Int)):Option V3:=All.exact_divide.l0 k x0 x1 x6 x7 x8
noncomputable abbrev A1b (k:Nat) (x9:Int) (x10:(List Int)) (x12:Int) (x14:Int) (x11:(List Int)) (x13:(List Int)):Option V3:=All.exact_divide.l1 k x9 x10 x11 x12 x13 x14
noncomputable abbrev A2Z (k:Nat) (x9:Int) (x12:Int) (x96:Int) (x97:Int) (x11:(List Int)) (x13:(List Int)):Option V3:=All.exact_divide.l2 k x9 x11 x12 x13 x96 x97
theorem E4v (k:Nat) (x0:(List Int)) (x1:(List Int)) (x7:Int) (x8:Int) (x6:(List Int)):A0 (All.exact_divide.l0 (k+1) x0 x1 x6 x7 x8) (C3H (A1n k) (M1 k) (R2 k) x0 x1 x7 x8 x6):=by rw [All.exact_divide.l0];unfold C3H;(try simp only [A1n,A1b,A2Z,M1,A0C,R2,U9,A1C,A0r,All.integer_zero.f,All.exact_stepAt.f,All.S24.f0,All.S24.f1,All.rd_T24,All.z24]);exact BR
theorem E0I (k:Nat) (x9:Int) (x10:(List Int)) (x12:Int) (x14:Int) (x11:(List Int)) (x13:(List Int)):A0 (All.exact_divide.l1 (k+1) x9 x10 x11 x12 x13 x14) (C4Y (A1b k) (A2Z k) (A0r k) x9 x10 x12 x14 x11 x13):=by rw [All.exact_divide.l1];unfold C4Y;(try simp only [A1n,A1b,A2Z,M1,A0C,R2,U9,A1C,A0r,All.integer_zero.f,All.exact_stepAt.f,All.S24.f0,All.S24.f1,All.rd_T24,All.z24]);exact BR
theorem F4Z (k:Nat) (x9:Int) (x12:Int) (x96:Int) (x97:Int) (x11:(List Int)) (x13:(List Int)):A0 (All.exact_divide.l2 (k+1) x9 x11 x12 x13 x96 x97) (C4X (A2Z k) (M1 k) x9 x12 x96 x97 x11 x13):=by rw [All.exact_divide.l2];unfold C4X;(try simp only [A1n,A1b,A2Z,M1,A0C,R2,U9,A1C,A0r,All.integer_zero.f,All.exact_stepAt.f,All.S24.f0,All.S24.f1,All.rd_T24,All.z24]);exact BR
theorem E2G (k:Nat) (x0:(List Int)) (x1:(List Int)):A0 (A0G k x0 x1) (C1X (A1n k) (A1b k) (M1 k) (A0C k) (U9 k) (A1C k) x0 x1):=by
 show A0 (All.exact_divide.f k x0 x1) _
 unfold All.exact_divide.f;unfold C1X;(try simp only [A1n,A1b,A2Z,M1,A0C,R2,U9,A1C,A0r,All.integer_zero.f,All.exact_stepAt.f,All.S24.f0,All.S24.f1,All.rd_T24,All.z24]);exact BR
theorem D6E (k:Nat):B5 Tryz.prog (C2t (A0G k)):=
 B6 B7 HM A3D (es:=fun k=>B3n (M1 k) (A0C k) (R2 k) (U9 k) (A1C k) (A0r k)) (fun k=>fc ⟨D0S k,fc ⟨F2x k,fc ⟨D3E k,fc ⟨D3Y k,fc ⟨F4R k,fc ⟨F4o k,fz⟩⟩⟩⟩⟩⟩) Tryz.func244 3 (by kernel_rfl) (fun s=>rfl) (fun k=>B5b (A1n k) (A1b k) (A2Z k)) (fc ⟨fun s=>rfl,fc ⟨fun s=>rfl,fc ⟨fun s=>rfl,fz⟩⟩⟩) (fun k s0=> .cons (by kernel_rfl) (by kernel_rfl) (fun s r h=>(F2c (A1n k) (A1b k) (A2Z k) (M1 k) (A0C k) (R2 k) (U9 k) (A1C k) (A0r k) s0 s).trans (E4v k s.1.1 s.1.2.1 s.1.2.2.1 s.1.2.2.2.1 s.2.1 r h)) (.cons (by kernel_rfl) (by kernel_rfl) (fun s r h=>(F0i (A1n k) (A1b k) (A2Z k) (M1 k) (A0C k) (R2 k) (U9 k) (A1C k) (A0r k) s0 s).trans (E0I k s.1.1 s.1.2.1 s.1.2.2.1 s.1.2.2.2.1 s.2.1 s.2.2.1 r h)) (.cons (by kernel_rfl) (by kernel_rfl) (fun s r h=>(E4x (A1n k) (A1b k) (A2Z k) (M1 k) (A0C k) (R2 k) (U9 k) (A1C k) (A0r k) s0 s).trans (F4Z k s.1.1 s.1.2.1 s.1.2.2.1 s.1.2.2.2.1 s.2.1 s.2.2.1 r h)) (.nil)))) (F:=fun k s=>A0G k s.1.1 s.1.2.1) (fun k s r h=>(F6l (A1n k) (A1b k) (A2Z k) (M1 k) (A0C k) (R2 k) (U9 k) (A1C k) (A0r k) s).trans (E2G k s.1.1 s.1.2.1 r h)) k
noncomputable abbrev A8q (k:Nat) (x5:(List Int)) (x6:(List Int)):Option z5:=All.exact_NatGcd.l0 k x5 x6
theorem F6Y (k:Nat) (x5:(List Int)) (x6:(List Int)):A0 (All.exact_NatGcd.l0 (k+1) x5 x6) (C7Y (A8q k) (H4 k) (A0G k) x5 x6):=by rw [All.exact_NatGcd.l0];unfold C7Y;(try simp only [A8q,H4,I8,A0G,All.integer_zero.f,All.exact_stepAt.f,All.S24.f0,All.S24.f1,All.rd_T24,All.z24]);exact BR
theorem F8L (k:Nat) (x0:ByteArray) (x1:ByteArray):A0 (T8 k x0 x1) (D0x (A8q k) (I8 k) x0 x1):=by
 show A0 (All.exact_NatGcd.f k x0 x1) _
 unfold All.exact_NatGcd.f;unfold D0x;(try simp only [A8q,H4,I8,A0G,All.integer_zero.f,All.exact_stepAt.f,All.S24.f0,All.S24.f1,All.rd_T24,All.z24]);exact BR
theorem D4W (k:Nat):B5 Tryz.prog (D0F (T8 k)):=
 B6 B7 HM B2g (es:=fun k=>C3f (H4 k) (I8 k) (A0G k)) (fun k=>fc ⟨A6y k,fc ⟨B1u k,fc ⟨D6E k,fz⟩⟩⟩) Tryz.func215 1 (by kernel_rfl) (fun s=>rfl) (fun k=>C6C (A8q k)) (fc ⟨fun s=>rfl,fz⟩) (fun k s0=> .cons (by kernel_rfl) (by kernel_rfl) (fun s r h=>(F7T (A8q k) (H4 k) (I8 k) (A0G k) s0 s).trans (F6Y k s.1.1 s.1.2.1 r h)) (.nil)) (F:=fun k s=>T8 k s.1.1 s.1.2.1) (fun k s r h=>(F6n (A8q k) (H4 k) (I8 k) (A0G k) s).trans (F8L k s.1.1 s.1.2.1 r h)) k
theorem E4w (k:Nat) (x0:TQ):A0 (N1 k x0) (A2i (t4 k) (V8 k) (T8 k) x0):=A0.refl _
theorem E1i (k:Nat):B5 Tryz.prog (D9D (N1 k)):=
 B6 B7 HM B8j (es:=fun k=>D2I (t4 k) (V8 k) (T8 k)) (fun k=>fc ⟨E7t k,fc ⟨D2H k,fc ⟨D4W k,fz⟩⟩⟩) Tryz.func172 0 (by kernel_rfl) (fun s=>rfl) (fun k=>[]) (fz) (fun k s0=> .nil) (F:=fun k s=>N1 k s.1.1) (fun k s r h=>(E3d (t4 k) (V8 k) (T8 k) s).trans (E4w k s.1.1 r h)) k
theorem E9Q (k:Nat) (x0:(List TQ)) (x9:(List TQ)) (x10:Int) (x11:Int):A0 (A0w (k+1) x0 x9 x10 x11) (A7x (A0w k) (I5 k) (N1 k) x0 x9 x10 x11):=by rw [A0w];exact A0.refl _
theorem E5f (k:Nat) (x0:(List TQ)):A0 (w7 k x0) (B3q (A0w k) x0):=A0.refl _
theorem D7x (k:Nat):B5 Tryz.prog (C8I (w7 k)):=
 B6 B7 HM B2t (es:=fun k=>C7z (I5 k) (N1 k)) (fun k=>fc ⟨B5v k,fc ⟨E1i k,fz⟩⟩) Tryz.func120 1 (by kernel_rfl) (fun s=>rfl) (fun k=>C7w (A0w k)) (fc ⟨fun s=>rfl,fz⟩) (fun k s0=> .cons (by kernel_rfl) (by kernel_rfl) (fun s r h=>(E3x (A0w k) (I5 k) (N1 k) s0 s).trans (E9Q k s.1.1 s.1.2.1 s.1.2.2.1 s.1.2.2.2.1 r h)) (.nil)) (F:=fun k s=>w7 k s.1.1) (fun k s r h=>(F0G (A0w k) (I5 k) (N1 k) s).trans (E5f k s.1.1 r h)) k
theorem E3l (k:Nat) (x0:TQ):A0 (A7t k x0) (C5c x0):=A0.refl _
theorem E8w (k:Nat):B5 Tryz.prog (D9C (A7t k)):=
 B6 B7 HM B8X (es:=fun k=>[]) (fun k=>fz) Tryz.func171 0 (by kernel_rfl) (fun s=>rfl) (fun k=>[]) (fz) (fun k s0=> .nil) (F:=fun k s=>A7t k s.1.1) (fun k s r h=>(F0r s).trans (E3l k s.1.1 r h)) k
theorem F0O (k:Nat) (x0:TQ):A0 (A2L k x0) (C2L (A7t k) x0):=A0.refl _
theorem F2m (k:Nat):B5 Tryz.prog (D9I (A2L k)):=
 B6 B7 HM C0i (es:=fun k=>D7g (A7t k)) (fun k=>fc ⟨E8w k,fz⟩) Tryz.func170 0 (by kernel_rfl) (fun s=>rfl) (fun k=>[]) (fz) (fun k s0=> .nil) (F:=fun k s=>A2L k s.1.1) (fun k s r h=>(E7Z (A7t k) s).trans (F0O k s.1.1 r h)) k
theorem E5i (k:Nat) (x0:(List TQ)) (x7:Int) (x8:Int):A0 (A0k (k+1) x0 x7 x8) (A8Z (A0k k) (A2L k) x0 x7 x8):=by rw [A0k];exact A0.refl _
theorem F1G (k:Nat) (x0:(List TQ)):A0 (A5z k x0) (B4m (A0k k) x0):=A0.refl _
theorem E7f (k:Nat):B5 Tryz.prog (D5a (A5z k)):=
 B6 B7 HM B1n (es:=fun k=>C1e (A2L k)) (fun k=>fc ⟨F2m k,fz⟩) Tryz.func194 1 (by kernel_rfl) (fun s=>rfl) (fun k=>C3b (A0k k)) (fc ⟨fun s=>rfl,fz⟩) (fun k s0=> .cons (by kernel_rfl) (by kernel_rfl) (fun s r h=>(F5V (A0k k) (A2L k) s0 s).trans (E5i k s.1.1 s.1.2.1 s.1.2.2.1 r h)) (.nil)) (F:=fun k s=>A5z k s.1.1) (fun k s r h=>(F3r (A0k k) (A2L k) s).trans (F1G k s.1.1 r h)) k
theorem D9n (k:Nat) (x0:(List TQ)):A0 (A5Q k x0) (C6Z (A5z k) x0):=A0.refl _
theorem E7A (k:Nat):B5 Tryz.prog (D2B (A5Q k)):=
 B6 B7 HM B9S (es:=fun k=>D2C (A5z k)) (fun k=>fc ⟨E7f k,fz⟩) Tryz.func153 0 (by kernel_rfl) (fun s=>rfl) (fun k=>[]) (fz) (fun k s0=> .nil) (F:=fun k s=>A5Q k s.1.1) (fun k s r h=>(F1V (A5z k) s).trans (D9n k s.1.1 r h)) k
theorem E1q (k:Nat) (x0:(List TQ)):A0 (A3v k x0) (B5o (E2 k) (w7 k) (A5Q k) x0):=A0.refl _
theorem E6E (k:Nat):B5 Tryz.prog (D5t (A3v k)):=
 B6 B7 HM B9r (es:=fun k=>D3O (E2 k) (w7 k) (A5Q k)) (fun k=>fc ⟨A7J k,fc ⟨D7x k,fc ⟨E7A k,fz⟩⟩⟩) Tryz.func119 0 (by kernel_rfl) (fun s=>rfl) (fun k=>[]) (fz) (fun k s0=> .nil) (F:=fun k s=>A3v k s.1.1) (fun k s r h=>(E6h (E2 k) (w7 k) (A5Q k) s).trans (E1q k s.1.1 r h)) k
theorem F4u (k:Nat) (x0:(List TQ)) (x1:(List TQ)):A0 (o3 k x0 x1) (B3F (w7 k) x0 x1):=A0.refl _
theorem D5g (k:Nat):B5 Tryz.prog (C2h (o3 k)):=
 B6 B7 HM C0D (es:=fun k=>D8T (w7 k)) (fun k=>fc ⟨D7x k,fz⟩) Tryz.func124 0 (by kernel_rfl) (fun s=>rfl) (fun k=>[]) (fz) (fun k s0=> .nil) (F:=fun k s=>o3 k s.1.1 s.1.2.1) (fun k s r h=>(E5b (w7 k) s).trans (F4u k s.1.1 s.1.2.1 r h)) k
theorem E4C (k:Nat) (x1:(List (List TQ))) (x11:(List (List TQ))) (x12:Int) (x13:Int) (x2:(List TQ)):A0 (A0D (k+1) x1 x11 x12 x13 x2) (A9R (A0D k) (o3 k) x1 x11 x12 x13 x2):=by rw [A0D];exact A0.refl _
theorem F1q (k:Nat) (x0:(List TQ)) (x1:(List (List TQ))):A0 (A1y k x0 x1) (B3w (A0D k) x0 x1):=A0.refl _
theorem F1I (k:Nat):B5 Tryz.prog (D7E (A1y k)):=
 B6 B7 HM B1I (es:=fun k=>C7V (o3 k)) (fun k=>fc ⟨D5g k,fz⟩) Tryz.func138 1 (by kernel_rfl) (fun s=>rfl) (fun k=>C9z (A0D k)) (fc ⟨fun s=>rfl,fz⟩) (fun k s0=> .cons (by kernel_rfl) (by kernel_rfl) (fun s r h=>(E3I (A0D k) (o3 k) s0 s).trans (E4C k s.1.1 s.1.2.1 s.1.2.2.1 s.1.2.2.2.1 s.2.1 r h)) (.nil)) (F:=fun k s=>A1y k s.1.1 s.1.2.1) (fun k s r h=>(F4y (A0D k) (o3 k) s).trans (F1q k s.1.1 s.1.2.1 r h)) k
theorem F7k (k:Nat) (x14:(List (List (List TQ)))) (x15:Int) (x16:Int) (x2:(List TQ)):A0 (A0y (k+1) x14 x15 x16 x2) (A8R (A0y k) (A1y k) x14 x15 x16 x2):=by rw [A0y];exact A0.refl _
theorem b83 (k:Nat) (x0:(List TQ)) (x1:(List (List (List TQ)))):A0 (F8 k x0 x1) (B83 (A0y k) (A3v k) x0 x1):=A0.refl _
theorem A8x (k:Nat):B5 Tryz.prog (A5j (F8 k)):=
 B6 B7 HM D83 (es:=fun k=>C6N (A3v k) (A1y k)) (fun k=>fc ⟨E6E k,fc ⟨F1I k,fz⟩⟩) Tryz.func83 1 (by kernel_rfl) (fun s=>rfl) (fun k=>C9a (A0y k)) (fc ⟨fun s=>rfl,fz⟩) (fun k s0=> .cons (by kernel_rfl) (by kernel_rfl) (fun s r h=>(F4W (A0y k) (A3v k) (A1y k) s0 s).trans (F7k k s.1.1 s.1.2.1 s.1.2.2.1 s.2.1 r h)) (.nil)) (F:=fun k s=>F8 k s.1.1 s.1.2.1) (fun k s r h=>(e83 (A0y k) (A3v k) (A1y k) s).trans (b83 k s.1.1 s.1.2.1 r h)) k
noncomputable abbrev A4U (k:Nat) (x1:(List Int)) (x20:(List Int)) (x21:Int) (x22:Int) (x5:(List Int)):Option e9:=All.exact_mulWords.l0 k x1 x5 x20 x21 x22
noncomputable abbrev A4M (k:Nat) (x1:(List Int)) (x6:Int) (x7:Int) (x8:Int) (x20:(List Int)) (x21:Int) (x22:Int) (x27:(List Int)) (x28:Int) (x29:Int) (x5:(List Int)):Option e9:=All.exact_mulWords.l1 k x1 x5 x6 x7 x8 x20 x21 x22 x27 x28 x29
theorem E5w (k:Nat) (x1:(List Int)) (x20:(List Int)) (x21:Int) (x22:Int) (x5:(List Int)):A0 (All.exact_mulWords.l0 (k+1) x1 x5 x20 x21 x22) (C2U (A4M k) (M1 k) x1 x20 x21 x22 x5):=by rw [All.exact_mulWords.l0];unfold C2U;(try simp only [A4U,A4M,M1,R6,M8,All.integer_zero.f,All.exact_stepAt.f,All.S24.f0,All.S24.f1,All.rd_T24,All.z24]);exact BR
theorem F0A (k:Nat) (x1:(List Int)) (x6:Int) (x7:Int) (x8:Int) (x20:(List Int)) (x21:Int) (x22:Int) (x27:(List Int)) (x28:Int) (x29:Int) (x5:(List Int)):A0 (All.exact_mulWords.l1 (k+1) x1 x5 x6 x7 x8 x20 x21 x22 x27 x28 x29) (C8d (A4U k) (A4M k) (R6 k) (M8 k) x1 x6 x7 x8 x20 x21 x22 x27 x28 x29 x5):=by rw [All.exact_mulWords.l1];unfold C8d;(try simp only [A4U,A4M,M1,R6,M8,All.integer_zero.f,All.exact_stepAt.f,All.S24.f0,All.S24.f1,All.rd_T24,All.z24]);exact BR
theorem E4q (k:Nat) (x0:(List Int)) (x1:(List Int)):A0 (A0S k x0 x1) (D0u (A4U k) x0 x1):=by
 show A0 (All.exact_mulWords.f k x0 x1) _
 unfold All.exact_mulWords.f;unfold D0u;(try simp only [A4U,A4M,M1,R6,M8,All.integer_zero.f,All.exact_stepAt.f,All.S24.f0,All.S24.f1,All.rd_T24,All.z24]);exact BR
theorem D7J (k:Nat):B5 Tryz.prog (C6s (A0S k)):=
 B6 B7 HM A6X (es:=fun k=>B8Z (M1 k) (R6 k) (M8 k)) (fun k=>fc ⟨D0S k,fc ⟨D8H k,fc ⟨C5a k,fz⟩⟩⟩) Tryz.func224 2 (by kernel_rfl) (fun s=>rfl) (fun k=>C0a (A4U k) (A4M k)) (fc ⟨fun s=>rfl,fc ⟨fun s=>rfl,fz⟩⟩) (fun k s0=> .cons (by kernel_rfl) (by kernel_rfl) (fun s r h=>(F6P (A4U k) (A4M k) (M1 k) (R6 k) (M8 k) s0 s).trans (E5w k s.1.1 s.1.2.1 s.1.2.2.1 s.1.2.2.2.1 s.2.1 r h)) (.cons (by kernel_rfl) (by kernel_rfl) (fun s r h=>(E1N (A4U k) (A4M k) (M1 k) (R6 k) (M8 k) s0 s).trans (F0A k s.1.1 s.1.2.1 s.1.2.2.1 s.1.2.2.2.1 s.1.2.2.2.2.1 s.1.2.2.2.2.2.1 s.1.2.2.2.2.2.2.1 s.1.2.2.2.2.2.2.2.1 s.1.2.2.2.2.2.2.2.2.1 s.1.2.2.2.2.2.2.2.2.2.1 s.2.1 r h)) (.nil))) (F:=fun k s=>A0S k s.1.1 s.1.2.1) (fun k s r h=>(E1C (A4U k) (A4M k) (M1 k) (R6 k) (M8 k) s).trans (E4q k s.1.1 s.1.2.1 r h)) k
theorem F1L (k:Nat) (x0:ByteArray) (x1:ByteArray):A0 (S9 k x0 x1) (C1c (H4 k) (A0S k) (I8 k) x0 x1):=by
 show A0 (All.exact_NatMul.f k x0 x1) _
 unfold All.exact_NatMul.f;unfold C1c;(try simp only [H4,A0S,I8,All.integer_zero.f,All.exact_stepAt.f,All.S24.f0,All.S24.f1,All.rd_T24,All.z24]);exact BR
theorem C3n (k:Nat):B5 Tryz.prog (B8n (S9 k)):=
 B6 B7 HM C0N (es:=fun k=>D6W (H4 k) (A0S k) (I8 k)) (fun k=>fc ⟨A6y k,fc ⟨D7J k,fc ⟨B1u k,fz⟩⟩⟩) Tryz.func186 0 (by kernel_rfl) (fun s=>rfl) (fun k=>[]) (fz) (fun k s0=> .nil) (F:=fun k s=>S9 k s.1.1 s.1.2.1) (fun k s r h=>(D9w (H4 k) (A0S k) (I8 k) s).trans (F1L k s.1.1 s.1.2.1 r h)) k
theorem F3A (k:Nat) (x0:Bool) (x1:ByteArray):A0 (K6 k x0 x1) (C5P x0 x1):=by
 show A0 (All.exact_IntMake.f x0 x1) _
 unfold All.exact_IntMake.f;unfold C5P;(try simp only [All.integer_zero.f,All.exact_stepAt.f,All.S24.f0,All.S24.f1,All.rd_T24,All.z24]);exact BR
theorem B0m (k:Nat):B5 Tryz.prog (A7Y (K6 k)):=
 B6 B7 HM B6x (es:=fun k=>[]) (fun k=>fz) Tryz.func192 0 (by kernel_rfl) (fun s=>rfl) (fun k=>[]) (fz) (fun k s0=> .nil) (F:=fun k s=>K6 k s.1.1 s.1.2.1) (fun k s r h=>(F7g s).trans (F3A k s.1.1 s.1.2.1 r h)) k
theorem F5H (k:Nat) (x0:TI) (x1:TI):A0 (A3N k x0 x1) (C1p (S9 k) (K6 k) x0 x1):=by
 show A0 (All.exact_IntMul.f k x0.1 x0.2 x1.1 x1.2) _
 unfold All.exact_IntMul.f;unfold C1p;(try simp only [S9,K6,All.integer_zero.f,All.exact_stepAt.f,All.S24.f0,All.S24.f1,All.rd_T24,All.z24]);exact BR
theorem F5m (k:Nat):B5 Tryz.prog (D9V (A3N k)):=
 B6 B7 HM C0m (es:=fun k=>D4F (S9 k) (K6 k)) (fun k=>fc ⟨C3n k,fc ⟨B0m k,fz⟩⟩) Tryz.func184 0 (by kernel_rfl) (fun s=>rfl) (fun k=>[]) (fz) (fun k s0=> .nil) (F:=fun k s=>A3N k s.1.1 s.1.2.1) (fun k s r h=>(E5g (S9 k) (K6 k) s).trans (F5H k s.1.1 s.1.2.1 r h)) k
theorem E3W (k:Nat) (x0:ByteArray) (x1:ByteArray):A0 (A5H k x0 x1) (C5t (H4 k) (I8 k) (A0G k) x0 x1):=by
 show A0 (All.exact_NatDivMod.f k x0 x1) _
 unfold All.exact_NatDivMod.f;unfold C5t;(try simp only [H4,I8,A0G,All.integer_zero.f,All.exact_stepAt.f,All.S24.f0,All.S24.f1,All.rd_T24,All.z24]);exact BR
theorem F7C (k:Nat):B5 Tryz.prog (D6j (A5H k)):=
 B6 B7 HM C0R (es:=fun k=>D9H (H4 k) (I8 k) (A0G k)) (fun k=>fc ⟨A6y k,fc ⟨B1u k,fc ⟨D6E k,fz⟩⟩⟩) Tryz.func222 0 (by kernel_rfl) (fun s=>rfl) (fun k=>[]) (fz) (fun k s0=> .nil) (F:=fun k s=>A5H k s.1.1 s.1.2.1) (fun k s r h=>(F7e (H4 k) (I8 k) (A0G k) s).trans (E3W k s.1.1 s.1.2.1 r h)) k
theorem F1C (k:Nat) (x0:TI) (x1:TI):A0 (a9 k x0 x1) (B3P (K6 k) (T8 k) (A5H k) x0 x1):=A0.refl _
theorem D3n (k:Nat):B5 Tryz.prog (C5N (a9 k)):=
 B6 B7 HM B8c (es:=fun k=>D4Y (K6 k) (T8 k) (A5H k)) (fun k=>fc ⟨B0m k,fc ⟨D4W k,fc ⟨F7C k,fz⟩⟩⟩) Tryz.func185 0 (by kernel_rfl) (fun s=>rfl) (fun k=>[]) (fz) (fun k s0=> .nil) (F:=fun k s=>a9 k s.1.1 s.1.2.1) (fun k s r h=>(E1M (K6 k) (T8 k) (A5H k) s).trans (F1C k s.1.1 s.1.2.1 r h)) k
theorem E0P (k:Nat) (x0:TQ) (x1:TQ):A0 (F0 k x0 x1) (B1d (R9 k) (A3N k) (a9 k) (S9 k) x0 x1):=A0.refl _
theorem B3k (k:Nat):B5 Tryz.prog (B1x (F0 k)):=
 B6 B7 HM B9n (es:=fun k=>D5E (R9 k) (A3N k) (a9 k) (S9 k)) (fun k=>fc ⟨C2y k,fc ⟨F5m k,fc ⟨D3n k,fc ⟨C3n k,fz⟩⟩⟩⟩) Tryz.func142 0 (by kernel_rfl) (fun s=>rfl) (fun k=>[]) (fz) (fun k s0=> .nil) (F:=fun k s=>F0 k s.1.1 s.1.2.1) (fun k s r h=>(E0Y (R9 k) (A3N k) (a9 k) (S9 k) s).trans (E0P k s.1.1 s.1.2.1 r h)) k
noncomputable abbrev A8v (k:Nat) (x1:Int) (x5:(List Int)) (x6:(List Int)):Option A0i:=All.exact_NatPow.l0 k x1 x5 x6
theorem E4i (k:Nat) (x1:Int) (x5:(List Int)) (x6:(List Int)):A0 (All.exact_NatPow.l0 (k+1) x1 x5 x6) (C5l (A8v k) (H4 k) (A0S k) x1 x5 x6):=by rw [All.exact_NatPow.l0];unfold C5l;(try simp only [A8v,H4,A0S,I8,All.integer_zero.f,All.exact_stepAt.f,All.S24.f0,All.S24.f1,All.rd_T24,All.z24]);exact BR
theorem F3F (k:Nat) (x0:ByteArray) (x1:Int):A0 (A2I k x0 x1) (C4r (A8v k) (I8 k) x0 x1):=by
 show A0 (All.exact_NatPow.f k x0 x1) _
 unfold All.exact_NatPow.f;unfold C4r;(try simp only [A8v,H4,A0S,I8,All.integer_zero.f,All.exact_stepAt.f,All.S24.f0,All.S24.f1,All.rd_T24,All.z24]);exact BR
theorem D8L (k:Nat):B5 Tryz.prog (C6T (A2I k)):=
 B6 B7 HM B1Z (es:=fun k=>C4Z (H4 k) (A0S k) (I8 k)) (fun k=>fc ⟨A6y k,fc ⟨D7J k,fc ⟨B1u k,fz⟩⟩⟩) Tryz.func188 1 (by kernel_rfl) (fun s=>rfl) (fun k=>C5m (A8v k)) (fc ⟨fun s=>rfl,fz⟩) (fun k s0=> .cons (by kernel_rfl) (by kernel_rfl) (fun s r h=>(E0K (A8v k) (H4 k) (A0S k) (I8 k) s0 s).trans (E4i k s.1.1 s.1.2.1 s.1.2.2.1 r h)) (.nil)) (F:=fun k s=>A2I k s.1.1 s.1.2.1) (fun k s r h=>(E6l (A8v k) (H4 k) (A0S k) (I8 k) s).trans (F3F k s.1.1 s.1.2.1 r h)) k
theorem F2G (k:Nat) (x0:TI) (x1:Int):A0 (A7H k x0 x1) (C1P (A2I k) (K6 k) x0 x1):=A0.refl _
theorem F0l (k:Nat):B5 Tryz.prog (D7R (A7H k)):=
 B6 B7 HM B9R (es:=fun k=>D7Y (A2I k) (K6 k)) (fun k=>fc ⟨D8L k,fc ⟨B0m k,fz⟩⟩) Tryz.func187 0 (by kernel_rfl) (fun s=>rfl) (fun k=>[]) (fz) (fun k s0=> .nil) (F:=fun k s=>A7H k s.1.1 s.1.2.1) (fun k s r h=>(E9k (A2I k) (K6 k) s).trans (F2G k s.1.1 s.1.2.1 r h)) k
theorem F7J (k:Nat) (x0:TQ) (x1:Int):A0 (A5k k x0 x1) (C1j (A7H k) (A2I k) x0 x1):=A0.refl _
theorem E2t (k:Nat):B5 Tryz.prog (D7U (A5k k)):=
 B6 B7 HM B7Y (es:=fun k=>D4e (A7H k) (A2I k)) (fun k=>fc ⟨F0l k,fc ⟨D8L k,fz⟩⟩) Tryz.func143 0 (by kernel_rfl) (fun s=>rfl) (fun k=>[]) (fz) (fun k s0=> .nil) (F:=fun k s=>A5k k s.1.1 s.1.2.1) (fun k s r h=>(F2d (A7H k) (A2I k) s).trans (F7J k s.1.1 s.1.2.1 r h)) k
theorem E0y (k:Nat) (x0:TI):A0 (A6Z k x0) (C7E (K6 k) x0):=by
 show A0 (All.exact_IntNeg.f x0.1 x0.2) _
 unfold All.exact_IntNeg.f;unfold C7E;(try simp only [K6,All.integer_zero.f,All.exact_stepAt.f,All.S24.f0,All.S24.f1,All.rd_T24,All.z24]);exact BR
theorem E1y (k:Nat):B5 Tryz.prog (D9B (A6Z k)):=
 B6 B7 HM B5z (es:=fun k=>D1x (K6 k)) (fun k=>fc ⟨B0m k,fz⟩) Tryz.func190 0 (by kernel_rfl) (fun s=>rfl) (fun k=>[]) (fz) (fun k s0=> .nil) (F:=fun k s=>A6Z k s.1.1) (fun k s r h=>(E3X (K6 k) s).trans (E0y k s.1.1 r h)) k
theorem D9z (k:Nat) (x0:TQ):A0 (m8 k x0) (B9t (A6Z k) x0):=A0.refl _
theorem D6b (k:Nat):B5 Tryz.prog (C7Q (m8 k)):=
 B6 B7 HM B9T (es:=fun k=>D6O (A6Z k)) (fun k=>fc ⟨E1y k,fz⟩) Tryz.func145 0 (by kernel_rfl) (fun s=>rfl) (fun k=>[]) (fz) (fun k s0=> .nil) (F:=fun k s=>m8 k s.1.1) (fun k s r h=>(E4h (A6Z k) s).trans (D9z k s.1.1 r h)) k
noncomputable abbrev A7V (k:Nat) (x8:Int) (x27:Int) (x28:Int) (x5:(List Int)) (x6:(List Int)) (x7:(List Int)):Option A2H:=All.exact_NatAdd.l0 k x5 x6 x7 x8 x27 x28
theorem E9s (k:Nat) (x8:Int) (x27:Int) (x28:Int) (x5:(List Int)) (x6:(List Int)) (x7:(List Int)):A0 (All.exact_NatAdd.l0 (k+1) x5 x6 x7 x8 x27 x28) (C2d (A7V k) (H4 k) (M8 k) x8 x27 x28 x5 x6 x7):=by
 rw [All.exact_NatAdd.l0]
 unfold C2d
 (try simp only [A7V,H4,I8,M8,All.integer_zero.f,All.exact_stepAt.f,All.S24.f0,All.S24.f1,All.rd_T24,All.z24])
 (try simp only [E8,List.take_append_drop,List.drop_length,List.append_nil,Int.zero_sub,Int.toNat_natCast,Int.reduceToNat,Int.zero_add,List.take_zero,List.nil_append,List.append_assoc,List.length_set,W9,List.take_left,H3,bne,H6,decide_not,H0,if_true,if_false,Bool.false_eq_true,i9,m9,List.drop_zero,List.take_length,H2,F3,l9,C4,ite_not,Bool.and_eq_true,Bool.or_eq_true,Bool.not_eq_true',G7,Bool.not_eq_false',beq_iff_eq,decide_eq_true_eq,H7,G9,G4,ne_eq,H1,List.toList_toArray])
 repeat' first
 | (with_reducible refine A0.trans ((All.exact_NatAdd.mono_l k).1 _ _) ?_;rw [All.exact_NatAdd.j0];(try simp only [E8,if_true,if_false,decide_eq_true_eq,Bool.false_eq_true,decide_not,ite_not,bne,H6,beq_iff_eq,Bool.not_eq_true',G7,H1,List.toList_toArray,G9,G4,Bool.and_eq_true,Bool.or_eq_true,H7,H0,H2,All.integer_zero.f,F3,Int.toNat_natCast,Int.reduceToNat,Int.zero_sub,H3]))
 | (with_reducible exact A0.none _)
 | (with_reducible exact A0.refl _)
 | (with_reducible refine A0.posR (by with_reducible assumption) ?_)
 | (with_reducible refine A0.negR (by with_reducible assumption) ?_)
 | (with_reducible refine A0.bindR (by with_reducible assumption) ?_)
 | (with_reducible refine A0.posL (by with_reducible assumption) ?_)
 | (with_reducible refine A0.negL (by with_reducible assumption) ?_)
 | (with_reducible refine A0.iteL (fun _=>?_) (fun _=>?_))
 | (with_reducible refine A0.bindK (by with_reducible assumption) ?_)
 | (with_reducible refine A0.bindL (fun _ _=>?_))
 | (refine A0.posR (by first|decide|exact Int.le_refl _|omega|assumption) ?_)
 | (refine A0.negR (by first|decide|omega) ?_)
theorem E0W (k:Nat) (x0:ByteArray) (x1:ByteArray):A0 (A8N k x0 x1) (C3M (A7V k) (I8 k) x0 x1):=by
 show A0 (All.exact_NatAdd.f k x0 x1) _
 unfold All.exact_NatAdd.f
 unfold C3M
 (try simp only [A7V,H4,I8,M8,All.integer_zero.f,All.exact_stepAt.f,All.S24.f0,All.S24.f1,All.rd_T24,All.z24])
 (try simp only [E8,List.take_append_drop,List.drop_length,List.append_nil,Int.zero_sub,Int.toNat_natCast,Int.reduceToNat,Int.zero_add,List.take_zero,List.nil_append,List.append_assoc,List.length_set,W9,List.take_left,H3,bne,H6,decide_not,H0,if_true,if_false,Bool.false_eq_true,i9,m9,List.drop_zero,List.take_length,H2,F3,l9,C4,ite_not,Bool.and_eq_true,Bool.or_eq_true,Bool.not_eq_true',G7,Bool.not_eq_false',beq_iff_eq,decide_eq_true_eq,H7,G9,G4,ne_eq,H1,List.toList_toArray])
 repeat' first
 | (with_reducible refine A0.trans ((All.exact_NatAdd.mono_l k).1 _ _) ?_;rw [All.exact_NatAdd.j0];(try simp only [E8,if_true,if_false,decide_eq_true_eq,Bool.false_eq_true,decide_not,ite_not,bne,H6,beq_iff_eq,Bool.not_eq_true',G7,H1,List.toList_toArray,G9,G4,Bool.and_eq_true,Bool.or_eq_true,H7,H0,H2,All.integer_zero.f,F3,Int.toNat_natCast,Int.reduceToNat,Int.zero_sub,H3]))
 | (with_reducible exact A0.none _)
 | (with_reducible exact A0.refl _)
 | (with_reducible refine A0.posR (by with_reducible assumption) ?_)
 | (with_reducible refine A0.negR (by with_reducible assumption) ?_)
 | (with_reducible refine A0.bindR (by with_reducible assumption) ?_)
 | (with_reducible refine A0.posL (by with_reducible assumption) ?_)
 | (with_reducible refine A0.negL (by with_reducible assumption) ?_)
 | (with_reducible refine A0.iteL (fun _=>?_) (fun _=>?_))
 | (with_reducible refine A0.bindK (by with_reducible assumption) ?_)
 | (with_reducible refine A0.bindL (fun _ _=>?_))
 | (refine A0.posR (by first|decide|exact Int.le_refl _|omega|assumption) ?_)
 | (refine A0.negR (by first|decide|omega) ?_)
theorem E9K (k:Nat):B5 Tryz.prog (D1T (A8N k)):=
 B6 B7 HM B2R (es:=fun k=>C8m (H4 k) (I8 k) (M8 k)) (fun k=>fc ⟨A6y k,fc ⟨B1u k,fc ⟨C5a k,fz⟩⟩⟩) Tryz.func226 1 (by kernel_rfl) (fun s=>rfl) (fun k=>C7m (A7V k)) (fc ⟨fun s=>rfl,fz⟩) (fun k s0=> .cons (by kernel_rfl) (by kernel_rfl) (fun s r h=>(F4l (A7V k) (H4 k) (I8 k) (M8 k) s0 s).trans (E9s k s.1.1 s.1.2.1 s.1.2.2.1 s.2.1 s.2.2.1 s.2.2.2.1 r h)) (.nil)) (F:=fun k s=>A8N k s.1.1 s.1.2.1) (fun k s r h=>(F2Y (A7V k) (H4 k) (I8 k) (M8 k) s).trans (E0W k s.1.1 s.1.2.1 r h)) k
theorem E4K (k:Nat) (x0:ByteArray) (x1:ByteArray):A0 (A9S k x0 x1) (C7t x0 x1):=by
 show A0 (All.exact_NatCmp.f k x0 x1) _
 unfold All.exact_NatCmp.f
 unfold C7t
 (try simp only [All.integer_zero.f,All.exact_stepAt.f,All.S24.f0,All.S24.f1,All.rd_T24,All.z24])
 (try simp only [E8,List.take_append_drop,List.drop_length,List.append_nil,Int.zero_sub,Int.toNat_natCast,Int.reduceToNat,Int.zero_add,List.take_zero,List.nil_append,List.append_assoc,List.length_set,W9,List.take_left,H3,bne,H6,decide_not,H0,if_true,if_false,Bool.false_eq_true,i9,m9,List.drop_zero,List.take_length,H2,F3,l9,C4,ite_not,Bool.and_eq_true,Bool.or_eq_true,Bool.not_eq_true',G7,Bool.not_eq_false',beq_iff_eq,decide_eq_true_eq,H7,G9,G4,ne_eq,H1,List.toList_toArray])
 repeat' first
 | (with_reducible refine A0.trans ((All.exact_NatCmp.mono_l k) _ _ _) ?_;rw [All.exact_NatCmp.j0];(try simp only [E8,if_true,if_false,decide_eq_true_eq,Bool.false_eq_true,decide_not,ite_not,bne,H6,beq_iff_eq,Bool.not_eq_true',G7,H1,List.toList_toArray,G9,G4,Bool.and_eq_true,Bool.or_eq_true,H7,H0,H2,All.integer_zero.f,F3,Int.toNat_natCast,Int.reduceToNat,Int.zero_sub,H3]))
 | (with_reducible exact A0.none _)
 | (with_reducible exact A0.refl _)
 | (with_reducible refine A0.posR (by with_reducible assumption) ?_)
 | (with_reducible refine A0.negR (by with_reducible assumption) ?_)
 | (with_reducible refine A0.bindR (by with_reducible assumption) ?_)
 | (with_reducible refine A0.posL (by with_reducible assumption) ?_)
 | (with_reducible refine A0.negL (by with_reducible assumption) ?_)
 | (with_reducible refine A0.iteL (fun _=>?_) (fun _=>?_))
 | (with_reducible refine A0.bindK (by with_reducible assumption) ?_)
 | (with_reducible refine A0.bindL (fun _ _=>?_))
 | (refine A0.posR (by first|decide|exact Int.le_refl _|omega|assumption) ?_)
 | (refine A0.negR (by first|decide|omega) ?_)
theorem E6b (k:Nat):B5 Tryz.prog (D8c (A9S k)):=
 B6 B7 HM C0Y (es:=fun k=>[]) (fun k=>fz) Tryz.func227 0 (by kernel_rfl) (fun s=>rfl) (fun k=>[]) (fz) (fun k s0=> .nil) (F:=fun k s=>A9S k s.1.1 s.1.2.1) (fun k s r h=>(F7R s).trans (E4K k s.1.1 s.1.2.1 r h)) k
noncomputable abbrev A7N (k:Nat) (x7:Int) (x15:Int) (x16:Int) (x5:(List Int)) (x6:(List Int)):Option A2r:=All.exact_NatSub.l0 k x5 x6 x7 x15 x16
theorem E2f (k:Nat) (x7:Int) (x15:Int) (x16:Int) (x5:(List Int)) (x6:(List Int)):A0 (All.exact_NatSub.l0 (k+1) x5 x6 x7 x15 x16) (D0J (A7N k) (H4 k) (d5 k) x7 x15 x16 x5 x6):=by rw [All.exact_NatSub.l0];unfold D0J;(try simp only [A7N,H4,I8,d5,All.integer_zero.f,All.exact_stepAt.f,All.S24.f0,All.S24.f1,All.rd_T24,All.z24]);exact BR
theorem E2b (k:Nat) (x0:ByteArray) (x1:ByteArray):A0 (A8X k x0 x1) (C6O (A7N k) (I8 k) x0 x1):=by
 show A0 (All.exact_NatSub.f k x0 x1) _
 unfold All.exact_NatSub.f;unfold C6O;(try simp only [A7N,H4,I8,d5,All.integer_zero.f,All.exact_stepAt.f,All.S24.f0,All.S24.f1,All.rd_T24,All.z24]);exact BR
theorem F5k (k:Nat):B5 Tryz.prog (D9Y (A8X k)):=
 B6 B7 HM B0t (es:=fun k=>C2s (H4 k) (I8 k) (d5 k)) (fun k=>fc ⟨A6y k,fc ⟨B1u k,fc ⟨D1M k,fz⟩⟩⟩) Tryz.func228 1 (by kernel_rfl) (fun s=>rfl) (fun k=>C2r (A7N k)) (fc ⟨fun s=>rfl,fz⟩) (fun k s0=> .cons (by kernel_rfl) (by kernel_rfl) (fun s r h=>(F6R (A7N k) (H4 k) (I8 k) (d5 k) s0 s).trans (E2f k s.1.1 s.1.2.1 s.1.2.2.1 s.2.1 s.2.2.1 r h)) (.nil)) (F:=fun k s=>A8X k s.1.1 s.1.2.1) (fun k s r h=>(E5z (A7N k) (H4 k) (I8 k) (d5 k) s).trans (E2b k s.1.1 s.1.2.1 r h)) k
theorem F1Y (k:Nat) (x0:TI) (x1:TI):A0 (A3u k x0 x1) (C9r (K6 k) (A8N k) (A9S k) (A8X k) x0 x1):=by
 show A0 (All.exact_IntAdd.f k x0.1 x0.2 x1.1 x1.2) _
 unfold All.exact_IntAdd.f;unfold C9r;(try simp only [K6,A8N,A9S,A8X,All.integer_zero.f,All.exact_stepAt.f,All.S24.f0,All.S24.f1,All.rd_T24,All.z24]);exact BR
theorem E8t (k:Nat):B5 Tryz.prog (D7z (A3u k)):=
 B6 B7 HM B8p (es:=fun k=>D9a (K6 k) (A8N k) (A9S k) (A8X k)) (fun k=>fc ⟨B0m k,fc ⟨E9K k,fc ⟨E6b k,fc ⟨F5k k,fz⟩⟩⟩⟩) Tryz.func191 0 (by kernel_rfl) (fun s=>rfl) (fun k=>[]) (fz) (fun k s0=> .nil) (F:=fun k s=>A3u k s.1.1 s.1.2.1) (fun k s r h=>(F0h (K6 k) (A8N k) (A9S k) (A8X k) s).trans (F1Y k s.1.1 s.1.2.1 r h)) k
theorem E7b (k:Nat) (x0:TQ) (x1:TQ):A0 (J9 k x0 x1) (B2H (R9 k) (a9 k) (S9 k) (A3u k) (K6 k) x0 x1):=A0.refl _
theorem C1z (k:Nat):B5 Tryz.prog (B9h (J9 k)):=
 B6 B7 HM B7P (es:=fun k=>D5i (R9 k) (a9 k) (S9 k) (A3u k) (K6 k)) (fun k=>fc ⟨C2y k,fc ⟨D3n k,fc ⟨C3n k,fc ⟨E8t k,fc ⟨B0m k,fz⟩⟩⟩⟩⟩) Tryz.func148 0 (by kernel_rfl) (fun s=>rfl) (fun k=>[]) (fz) (fun k s0=> .nil) (F:=fun k s=>J9 k s.1.1 s.1.2.1) (fun k s r h=>(D9h (R9 k) (a9 k) (S9 k) (A3u k) (K6 k) s).trans (E7b k s.1.1 s.1.2.1 r h)) k
theorem b88 (k:Nat) (x0:TQ) (x1:TQ):A0 (L5 k x0 x1) (B88 (m8 k) (J9 k) x0 x1):=A0.refl _
theorem C4N (k:Nat):B5 Tryz.prog (B9s (L5 k)):=
 B6 B7 HM D88 (es:=fun k=>D6B (m8 k) (J9 k)) (fun k=>fc ⟨D6b k,fc ⟨C1z k,fz⟩⟩) Tryz.func88 0 (by kernel_rfl) (fun s=>rfl) (fun k=>[]) (fz) (fun k s0=> .nil) (F:=fun k s=>L5 k s.1.1 s.1.2.1) (fun k s r h=>(e88 (m8 k) (J9 k) s).trans (b88 k s.1.1 s.1.2.1 r h)) k
theorem E2C (k:Nat) (x0:(List TQ)) (x3:Int):A0 (z7 (k+1) x0 x3) (A7U (z7 k) (I5 k) x0 x3):=by rw [z7];exact A0.refl _
theorem b92 (k:Nat) (x0:(List TQ)):A0 (D9 k x0) (B92 (z7 k) x0):=A0.refl _
theorem A8i (k:Nat):B5 Tryz.prog (A6q (D9 k)):=
 B6 B7 HM D92 (es:=fun k=>C6z (I5 k)) (fun k=>fc ⟨B5v k,fz⟩) Tryz.func92 1 (by kernel_rfl) (fun s=>rfl) (fun k=>C5L (z7 k)) (fc ⟨fun s=>rfl,fz⟩) (fun k s0=> .cons (by kernel_rfl) (by kernel_rfl) (fun s r h=>(E7F (z7 k) (I5 k) s0 s).trans (E2C k s.1.1 s.1.2.1 r h)) (.nil)) (F:=fun k s=>D9 k s.1.1) (fun k s r h=>(e92 (z7 k) (I5 k) s).trans (b92 k s.1.1 r h)) k
theorem E9H (k:Nat) (x0:TQ):A0 (Q2 k x0) (B9v x0):=A0.refl _
theorem D0p (k:Nat):B5 Tryz.prog (B8e (Q2 k)):=
 B6 B7 HM B6X (es:=fun k=>[]) (fun k=>fz) Tryz.func147 0 (by kernel_rfl) (fun s=>rfl) (fun k=>[]) (fz) (fun k s0=> .nil) (F:=fun k s=>Q2 k s.1.1) (fun k s r h=>(F8H s).trans (E9H k s.1.1 r h)) k
theorem E4H (k:Nat) (x0:(List TQ)):A0 (C6J k x0) (C6t x0):=A0.refl _
theorem E2I (k:Nat):B5 Tryz.prog (E4Z (C6J k)):=
 B6 B7 HM B5t (es:=fun k=>[]) (fun k=>fz) Tryz.func189 0 (by kernel_rfl) (fun s=>rfl) (fun k=>[]) (fz) (fun k s0=> .nil) (F:=fun k s=>C6J k s.1.1) (fun k s r h=>(E6G s).trans (E4H k s.1.1 r h)) k
theorem D9u (k:Nat) (x0:(List TQ)):A0 (C2x k x0) (A6R x0):=A0.refl _
theorem E7m (k:Nat):B5 Tryz.prog (F7X (C2x k)):=
 B6 B7 HM B9b (es:=fun k=>[]) (fun k=>fz) Tryz.func189 0 (by kernel_rfl) (fun s=>rfl) (fun k=>[]) (fz) (fun k s0=> .nil) (F:=fun k s=>C2x k s.1.1) (fun k s r h=>(F0p s).trans (D9u k s.1.1 r h)) k
theorem E7a (k:Nat):B5 Tryz.prog (D8S (A3V k)):=F3X (E2I k) (E7m k) (fun s r h=>⟨h,fun hx=>by
 have e:A6R []=some []:=by kernel_rfl
 have h':A6R s.1.1=some r:=h
 rw [hx,e]at h'
 cases h'
 rfl⟩)
theorem E6v (k:Nat) (x0:(List TQ)) (x1:(List TQ)) (x7:Int) (x30:Int) (x31:Int) (x6:(List TQ)) (x8:(List TQ)):A0 (q8 (k+1) x0 x1 x7 x30 x31 x6 x8) (A8A (q8 k) (R8 k) (E2 k) (Q2 k) x0 x1 x7 x30 x31 x6 x8):=by rw [q8];exact A0.refl _
theorem F1K (k:Nat) (x1:(List TQ)) (x7:Int) (x11:Int) (x6:(List TQ)) (x8:(List TQ)) (x10:TQ):A0 (R8 (k+1) x1 x7 x11 x6 x8 x10) (A7K (R8 k) (i5 k) (D9 k) (F0 k) (I5 k) x1 x7 x11 x6 x8 x10):=by rw [R8];exact A0.refl _
theorem E3S (k:Nat) (x1:(List TQ)) (x7:Int) (x11:Int) (x69:Int) (x70:Int) (x6:(List TQ)) (x8:(List TQ)) (x10:TQ) (x12:TQ):A0 (i5 (k+1) x1 x7 x11 x69 x70 x6 x8 x10 x12) (A8F (R8 k) (i5 k) (L5 k) (F0 k) x1 x7 x11 x69 x70 x6 x8 x10 x12):=by rw [i5];exact A0.refl _
theorem F7O (k:Nat) (x0:(List TQ)) (x1:(List TQ)):A0 (W3 k x0 x1) (B3T (q8 k) (A3V k) x0 x1):=A0.refl _
theorem C3B (k:Nat):B5 Tryz.prog (B7B (W3 k)):=
 B6 B7 HM A3p (es:=fun k=>B5j (L5 k) (E2 k) (D9 k) (F0 k) (Q2 k) (I5 k) (A3V k)) (fun k=>fc ⟨C4N k,fc ⟨A7J k,fc ⟨A8i k,fc ⟨B3k k,fc ⟨D0p k,fc ⟨B5v k,fc ⟨E7a k,fz⟩⟩⟩⟩⟩⟩⟩) Tryz.func144 3 (by kernel_rfl) (fun s=>rfl) (fun k=>B4U (q8 k) (R8 k) (i5 k)) (fc ⟨fun s=>rfl,fc ⟨fun s=>rfl,fc ⟨fun s=>rfl,fz⟩⟩⟩) (fun k s0=> .cons (by kernel_rfl) (by kernel_rfl) (fun s r h=>(E9N (q8 k) (R8 k) (i5 k) (L5 k) (E2 k) (D9 k) (F0 k) (Q2 k) (I5 k) (A3V k) s0 s).trans (E6v k s.1.1 s.1.2.1 s.1.2.2.1 s.1.2.2.2.1 s.1.2.2.2.2.1 s.2.1 s.2.2.1 r h)) (.cons (by kernel_rfl) (by kernel_rfl) (fun s r h=>(E9o (q8 k) (R8 k) (i5 k) (L5 k) (E2 k) (D9 k) (F0 k) (Q2 k) (I5 k) (A3V k) s0 s).trans (F1K k s.1.1 s.1.2.1 s.1.2.2.1 s.2.1 s.2.2.1 s.2.2.2.1 r h)) (.cons (by kernel_rfl) (by kernel_rfl) (fun s r h=>(E0o (q8 k) (R8 k) (i5 k) (L5 k) (E2 k) (D9 k) (F0 k) (Q2 k) (I5 k) (A3V k) s0 s).trans (E3S k s.1.1 s.1.2.1 s.1.2.2.1 s.1.2.2.2.1 s.1.2.2.2.2.1 s.2.1 s.2.2.1 s.2.2.2.1 s.2.2.2.2.1 r h)) (.nil)))) (F:=fun k s=>W3 k s.1.1 s.1.2.1) (fun k s r h=>(E4k (q8 k) (R8 k) (i5 k) (L5 k) (E2 k) (D9 k) (F0 k) (Q2 k) (I5 k) (A3V k) s).trans (F7O k s.1.1 s.1.2.1 r h)) k
theorem E1j (k:Nat) (x0:(List TQ)) (x1:(List TQ)) (x4:TQ) (x5:TQ):A0 (A4P (k+1) x0 x1 x4 x5) (C1C (A4P k) (E2 k) (F0 k) (A5k k) (W3 k) (m8 k) x0 x1 x4 x5):=by rw [A4P];exact A0.refl _
theorem b84 (k:Nat) (x0:(List TQ)) (x1:(List TQ)):A0 (A2o k x0 x1) (B84 (A4P k) (E2 k) x0 x1):=A0.refl _
theorem F0v (k:Nat):B5 Tryz.prog (D5N (A2o k)):=
 B6 B7 HM D84 (es:=fun k=>C7L (E2 k) (F0 k) (A5k k) (W3 k) (m8 k)) (fun k=>fc ⟨A7J k,fc ⟨B3k k,fc ⟨E2t k,fc ⟨C3B k,fc ⟨D6b k,fz⟩⟩⟩⟩⟩) Tryz.func84 1 (by kernel_rfl) (fun s=>rfl) (fun k=>C5n (A4P k)) (fc ⟨fun s=>rfl,fz⟩) (fun k s0=> .cons (by kernel_rfl) (by kernel_rfl) (fun s r h=>(E1b (A4P k) (E2 k) (F0 k) (A5k k) (W3 k) (m8 k) s0 s).trans (E1j k s.1.1 s.1.2.1 s.2.1 s.2.2.1 r h)) (.nil)) (F:=fun k s=>A2o k s.1.1 s.1.2.1) (fun k s r h=>(e84 (A4P k) (E2 k) (F0 k) (A5k k) (W3 k) (m8 k) s).trans (b84 k s.1.1 s.1.2.1 r h)) k
theorem E0d (k:Nat) (x0:(List TQ)) (x1:Int):A0 (Y3 k x0 x1) (B3t (E2 k) x0 x1):=A0.refl _
theorem D8e (k:Nat):B5 Tryz.prog (C1o (Y3 k)):=
 B6 B7 HM B6T (es:=fun k=>D6M (E2 k)) (fun k=>fc ⟨A7J k,fz⟩) Tryz.func151 0 (by kernel_rfl) (fun s=>rfl) (fun k=>[]) (fz) (fun k s0=> .nil) (F:=fun k s=>Y3 k s.1.1 s.1.2.1) (fun k s r h=>(F3V (E2 k) s).trans (E0d k s.1.1 s.1.2.1 r h)) k
theorem F1z (k:Nat) (x0:(List TQ)) (x1:(List TQ)) (x14:Int) (x15:Int) (x5:(List TQ)):A0 (A0v (k+1) x0 x1 x14 x15 x5) (A9I (A0v k) (D9 k) (J9 k) (Y3 k) x0 x1 x14 x15 x5):=by rw [A0v];exact A0.refl _
theorem b90 (k:Nat) (x0:(List TQ)) (x1:(List TQ)):A0 (J3 k x0 x1) (B90 (A0v k) x0 x1):=A0.refl _
theorem B8D (k:Nat):B5 Tryz.prog (B5G (J3 k)):=
 B6 B7 HM D90 (es:=fun k=>C9V (D9 k) (J9 k) (Y3 k)) (fun k=>fc ⟨A8i k,fc ⟨C1z k,fc ⟨D8e k,fz⟩⟩⟩) Tryz.func90 1 (by kernel_rfl) (fun s=>rfl) (fun k=>C2b (A0v k)) (fc ⟨fun s=>rfl,fz⟩) (fun k s0=> .cons (by kernel_rfl) (by kernel_rfl) (fun s r h=>(E9I (A0v k) (D9 k) (J9 k) (Y3 k) s0 s).trans (F1z k s.1.1 s.1.2.1 s.1.2.2.1 s.1.2.2.2.1 s.2.1 r h)) (.nil)) (F:=fun k s=>J3 k s.1.1 s.1.2.1) (fun k s r h=>(e90 (A0v k) (D9 k) (J9 k) (Y3 k) s).trans (b90 k s.1.1 s.1.2.1 r h)) k
theorem F3k (k:Nat) (x0:(List TQ)) (x1:(List TQ)) (x27:Int) (x28:Int) (x5:(List TQ)):A0 (s8 (k+1) x0 x1 x27 x28 x5) (A7s (s8 k) (S8 k) (E2 k) x0 x1 x27 x28 x5):=by rw [s8];exact A0.refl _
theorem F1t (k:Nat) (x1:(List TQ)) (x36:(List TQ)) (x37:Int) (x38:Int) (x5:(List TQ)):A0 (S8 (k+1) x1 x36 x37 x38 x5) (A7d (S8 k) (i6 k) (D9 k) (I5 k) x1 x36 x37 x38 x5):=by rw [S8];exact A0.refl _
theorem E7P (k:Nat) (x1:(List TQ)) (x7:Int) (x36:(List TQ)) (x37:Int) (x38:Int) (x45:(List TQ)) (x46:Int) (x47:Int) (x5:(List TQ)) (x8:TQ):A0 (i6 (k+1) x1 x7 x36 x37 x38 x45 x46 x47 x5 x8) (A9G (S8 k) (i6 k) (F0 k) (J9 k) x1 x7 x36 x37 x38 x45 x46 x47 x5 x8):=by rw [i6];exact A0.refl _
theorem b91 (k:Nat) (x0:(List TQ)) (x1:(List TQ)):A0 (L3 k x0 x1) (B91 (s8 k) x0 x1):=A0.refl _
theorem B6e (k:Nat):B5 Tryz.prog (B2u (L3 k)):=
 B6 B7 HM D91 (es:=fun k=>B2v (E2 k) (D9 k) (F0 k) (J9 k) (I5 k)) (fun k=>fc ⟨A7J k,fc ⟨A8i k,fc ⟨B3k k,fc ⟨C1z k,fc ⟨B5v k,fz⟩⟩⟩⟩⟩) Tryz.func91 3 (by kernel_rfl) (fun s=>rfl) (fun k=>B3o (s8 k) (S8 k) (i6 k)) (fc ⟨fun s=>rfl,fc ⟨fun s=>rfl,fc ⟨fun s=>rfl,fz⟩⟩⟩) (fun k s0=> .cons (by kernel_rfl) (by kernel_rfl) (fun s r h=>(F7E (s8 k) (S8 k) (i6 k) (E2 k) (D9 k) (F0 k) (J9 k) (I5 k) s0 s).trans (F3k k s.1.1 s.1.2.1 s.1.2.2.1 s.1.2.2.2.1 s.2.1 r h)) (.cons (by kernel_rfl) (by kernel_rfl) (fun s r h=>(E3Y (s8 k) (S8 k) (i6 k) (E2 k) (D9 k) (F0 k) (J9 k) (I5 k) s0 s).trans (F1t k s.1.1 s.1.2.1 s.1.2.2.1 s.1.2.2.2.1 s.2.1 r h)) (.cons (by kernel_rfl) (by kernel_rfl) (fun s r h=>(F7x (s8 k) (S8 k) (i6 k) (E2 k) (D9 k) (F0 k) (J9 k) (I5 k) s0 s).trans (E7P k s.1.1 s.1.2.1 s.1.2.2.1 s.1.2.2.2.1 s.1.2.2.2.2.1 s.1.2.2.2.2.2.1 s.1.2.2.2.2.2.2.1 s.1.2.2.2.2.2.2.2.1 s.2.1 s.2.2.1 r h)) (.nil)))) (F:=fun k s=>L3 k s.1.1 s.1.2.1) (fun k s r h=>(e91 (s8 k) (S8 k) (i6 k) (E2 k) (D9 k) (F0 k) (J9 k) (I5 k) s).trans (b91 k s.1.1 s.1.2.1 r h)) k
theorem F5D (k:Nat) (x0:(List TQ)) (x1:(List TQ)):A0 (O8 k x0 x1) (B3A (W3 k) x0 x1):=A0.refl _
theorem C4S (k:Nat):B5 Tryz.prog (B7K (O8 k)):=
 B6 B7 HM B8d (es:=fun k=>D3T (W3 k)) (fun k=>fc ⟨C3B k,fz⟩) Tryz.func165 0 (by kernel_rfl) (fun s=>rfl) (fun k=>[]) (fz) (fun k s0=> .nil) (F:=fun k s=>O8 k s.1.1 s.1.2.1) (fun k s r h=>(E4M (W3 k) s).trans (F5D k s.1.1 s.1.2.1 r h)) k
theorem E8F (k:Nat) (x0:(List TQ)) (x1:(List TQ)) (x2:(List TQ)):A0 (U3 k x0 x1 x2) (C7D (L3 k) (O8 k) x0 x1 x2):=A0.refl _
theorem D0b (k:Nat):B5 Tryz.prog (C0e (U3 k)):=
 B6 B7 HM B6r (es:=fun k=>D2Q (L3 k) (O8 k)) (fun k=>fc ⟨B6e k,fc ⟨C4S k,fz⟩⟩) Tryz.func146 0 (by kernel_rfl) (fun s=>rfl) (fun k=>[]) (fz) (fun k s0=> .nil) (F:=fun k s=>U3 k s.1.1 s.1.2.1 s.1.2.2.1) (fun k s r h=>(E0L (L3 k) (O8 k) s).trans (E8F k s.1.1 s.1.2.1 s.1.2.2.1 r h)) k
theorem E1K (k:Nat) (x1:(List (List TQ))) (x2:(List TQ)) (x7:(List TQ)) (x8:Int) (x3:(List TQ)):A0 (A4u (k+1) x1 x2 x7 x8 x3) (C2G (A4u k) (J3 k) (U3 k) x1 x2 x7 x8 x3):=by rw [A4u];exact A0.refl _
theorem b85 (k:Nat) (x0:(List TQ)) (x1:(List (List TQ))) (x2:(List TQ)):A0 (A1v k x0 x1 x2) (B85 (A4u k) x0 x1 x2):=A0.refl _
theorem E8g (k:Nat):B5 Tryz.prog (D3I (A1v k)):=
 B6 B7 HM D85 (es:=fun k=>C6S (J3 k) (U3 k)) (fun k=>fc ⟨B8D k,fc ⟨D0b k,fz⟩⟩) Tryz.func85 1 (by kernel_rfl) (fun s=>rfl) (fun k=>C4w (A4u k)) (fc ⟨fun s=>rfl,fz⟩) (fun k s0=> .cons (by kernel_rfl) (by kernel_rfl) (fun s r h=>(E9c (A4u k) (J3 k) (U3 k) s0 s).trans (E1K k s.1.1 s.1.2.1 s.1.2.2.1 s.1.2.2.2.1 s.2.1 r h)) (.nil)) (F:=fun k s=>A1v k s.1.1 s.1.2.1 s.1.2.2.1) (fun k s r h=>(e85 (A4u k) (J3 k) (U3 k) s).trans (b85 k s.1.1 s.1.2.1 s.1.2.2.1 r h)) k
theorem E9a (k:Nat) (x9:(List Int)) (x10:Int) (x11:Int) (x3:(List TQ)):A0 (A4s (k+1) x9 x10 x11 x3) (D0A (A4s k) (E2 k) (D9 k) x9 x10 x11 x3):=by rw [A4s];exact A0.refl _
theorem b86 (k:Nat) (x0:(List Int)):A0 (M9 k x0) (B86 (A4s k) x0):=A0.refl _
theorem B9z (k:Nat):B5 Tryz.prog (B5C (M9 k)):=
 B6 B7 HM D86 (es:=fun k=>C3K (E2 k) (D9 k)) (fun k=>fc ⟨A7J k,fc ⟨A8i k,fz⟩⟩) Tryz.func86 1 (by kernel_rfl) (fun s=>rfl) (fun k=>C6F (A4s k)) (fc ⟨fun s=>rfl,fz⟩) (fun k s0=> .cons (by kernel_rfl) (by kernel_rfl) (fun s r h=>(E0D (A4s k) (E2 k) (D9 k) s0 s).trans (E9a k s.1.1 s.1.2.1 s.1.2.2.1 s.2.1 r h)) (.nil)) (F:=fun k s=>M9 k s.1.1) (fun k s r h=>(e86 (A4s k) (E2 k) (D9 k) s).trans (b86 k s.1.1 r h)) k
theorem b87 (k:Nat) (x0:TQ) (x1:TQ):A0 (A2E k x0 x1) (B87 (F0 k) (Q2 k) x0 x1):=A0.refl _
theorem F2A (k:Nat):B5 Tryz.prog (D5Z (A2E k)):=
 B6 B7 HM D87 (es:=fun k=>D2J (F0 k) (Q2 k)) (fun k=>fc ⟨B3k k,fc ⟨D0p k,fz⟩⟩) Tryz.func87 0 (by kernel_rfl) (fun s=>rfl) (fun k=>[]) (fz) (fun k s0=> .nil) (F:=fun k s=>A2E k s.1.1 s.1.2.1) (fun k s r h=>(e87 (F0 k) (Q2 k) s).trans (b87 k s.1.1 s.1.2.1 r h)) k
theorem F3M (k:Nat) (x0:TQ):A0 (A2X k x0) (B5e x0):=A0.refl _
theorem D9e (k:Nat):B5 Tryz.prog (D5j (A2X k)):=
 B6 B7 HM B8x (es:=fun k=>[]) (fun k=>fz) Tryz.func154 0 (by kernel_rfl) (fun s=>rfl) (fun k=>[]) (fz) (fun k s0=> .nil) (F:=fun k s=>A2X k s.1.1) (fun k s r h=>(E3i s).trans (F3M k s.1.1 r h)) k
theorem E0S (k:Nat) (x0:(List TQ)) (x7:Int) (x8:Int):A0 (A0s (k+1) x0 x7 x8) (A9W (A0s k) (A2X k) x0 x7 x8):=by rw [A0s];exact A0.refl _
theorem F3g (k:Nat) (x0:(List TQ)):A0 (A6I k x0) (B5a (A0s k) x0):=A0.refl _
theorem F8P (k:Nat):B5 Tryz.prog (D5w (A6I k)):=
 B6 B7 HM B2T (es:=fun k=>D0o (A2X k)) (fun k=>fc ⟨D9e k,fz⟩) Tryz.func194 1 (by kernel_rfl) (fun s=>rfl) (fun k=>C2Z (A0s k)) (fc ⟨fun s=>rfl,fz⟩) (fun k s0=> .cons (by kernel_rfl) (by kernel_rfl) (fun s r h=>(F0g (A0s k) (A2X k) s0 s).trans (E0S k s.1.1 s.1.2.1 s.1.2.2.1 r h)) (.nil)) (F:=fun k s=>A6I k s.1.1) (fun k s r h=>(E3u (A0s k) (A2X k) s).trans (F3g k s.1.1 r h)) k
theorem E5Z (k:Nat) (x0:(List TQ)):A0 (A1L k x0) (C4g (A6I k) x0):=A0.refl _
theorem D8M (k:Nat):B5 Tryz.prog (D0v (A1L k)):=
 B6 B7 HM B7k (es:=fun k=>D1h (A6I k)) (fun k=>fc ⟨F8P k,fz⟩) Tryz.func153 0 (by kernel_rfl) (fun s=>rfl) (fun k=>[]) (fz) (fun k s0=> .nil) (F:=fun k s=>A1L k s.1.1) (fun k s r h=>(E9j (A6I k) s).trans (E5Z k s.1.1 r h)) k
theorem b93 (k:Nat) (x0:(List TQ)):A0 (A2b k x0) (B93 (A1L k) x0):=A0.refl _
theorem E0G (k:Nat):B5 Tryz.prog (D2Y (A2b k)):=
 B6 B7 HM D93 (es:=fun k=>D5H (A1L k)) (fun k=>fc ⟨D8M k,fz⟩) Tryz.func93 0 (by kernel_rfl) (fun s=>rfl) (fun k=>[]) (fz) (fun k s0=> .nil) (F:=fun k s=>A2b k s.1.1) (fun k s r h=>(e93 (A1L k) s).trans (b93 k s.1.1 r h)) k
theorem E6k (k:Nat) (x1:(List (List TQ))) (x7:Int) (x38:Int) (x39:Int) (x2:(List TQ)) (x8:(List TQ)):A0 (A1W (k+1) x1 x7 x38 x39 x2 x8) (C5v (A1W k) (A1O k) (A2o k) (A1v k) (M9 k) x1 x7 x38 x39 x2 x8):=by rw [A1W];exact A0.refl _
theorem E2L (k:Nat) (x7:Int) (x10:Int) (x8:(List TQ)):A0 (A1O (k+1) x7 x10 x8) (C6l (A1R k) (A1V k) x7 x10 x8):=by rw [A1O];exact A0.refl _
theorem E1v (k:Nat) (x7:Int) (x10:Int) (x11:Int) (x8:(List TQ)):A0 (A1R (k+1) x7 x10 x11 x8) (C4U (A1O k) (A1R k) (A2E k) (L5 k) (E2 k) x7 x10 x11 x8):=by rw [A1R];exact A0.refl _
theorem E9E (k:Nat) (x12:(List TQ)) (x13:Int) (x8:(List TQ)):A0 (A1V (k+1) x12 x13 x8) (C8B (A1V k) (M9 k) (J3 k) (L3 k) (D9 k) (A2b k) x12 x13 x8):=by rw [A1V];exact A0.refl _
theorem b17 (k:Nat) (x0:(List TQ)) (x1:(List (List TQ))):A0 (A8k k x0 x1) (B17 (A1W k) (F8 k) x0 x1):=A0.refl _
theorem E3q (k:Nat):B5 Tryz.prog (D7d (A8k k)):=
 B6 B7 HM D17 (es:=fun k=>A9j (F8 k) (A2o k) (A1v k) (M9 k) (A2E k) (L5 k) (E2 k) (J3 k) (L3 k) (D9 k) (A2b k)) (fun k=>fc ⟨A8x k,fc ⟨F0v k,fc ⟨E8g k,fc ⟨B9z k,fc ⟨F2A k,fc ⟨C4N k,fc ⟨A7J k,fc ⟨B8D k,fc ⟨B6e k,fc ⟨A8i k,fc ⟨E0G k,fz⟩⟩⟩⟩⟩⟩⟩⟩⟩⟩⟩) Tryz.func17 4 (by kernel_rfl) (fun s=>rfl) (fun k=>B0T (A1W k) (A1O k) (A1R k) (A1V k)) (fc ⟨fun s=>rfl,fc ⟨fun s=>rfl,fc ⟨fun s=>rfl,fc ⟨fun s=>rfl,fz⟩⟩⟩⟩) (fun k s0=> .cons (by kernel_rfl) (by kernel_rfl) (fun s r h=>(E2H (A1W k) (A1O k) (A1R k) (A1V k) (F8 k) (A2o k) (A1v k) (M9 k) (A2E k) (L5 k) (E2 k) (J3 k) (L3 k) (D9 k) (A2b k) s0 s).trans (E6k k s.1.1 s.1.2.1 s.1.2.2.1 s.1.2.2.2.1 s.2.1 s.2.2.1 r h)) (.cons (by kernel_rfl) (by kernel_rfl) (fun s r h=>(E9J (A1W k) (A1O k) (A1R k) (A1V k) (F8 k) (A2o k) (A1v k) (M9 k) (A2E k) (L5 k) (E2 k) (J3 k) (L3 k) (D9 k) (A2b k) s0 s).trans (E2L k s.1.1 s.1.2.1 s.2.1 r h)) (.cons (by kernel_rfl) (by kernel_rfl) (fun s r h=>(E0e (A1W k) (A1O k) (A1R k) (A1V k) (F8 k) (A2o k) (A1v k) (M9 k) (A2E k) (L5 k) (E2 k) (J3 k) (L3 k) (D9 k) (A2b k) s0 s).trans (E1v k s.1.1 s.1.2.1 s.1.2.2.1 s.2.1 r h)) (.cons (by kernel_rfl) (by kernel_rfl) (fun s r h=>(F6C (A1W k) (A1O k) (A1R k) (A1V k) (F8 k) (A2o k) (A1v k) (M9 k) (A2E k) (L5 k) (E2 k) (J3 k) (L3 k) (D9 k) (A2b k) s0 s).trans (E9E k s.1.1 s.1.2.1 s.2.1 r h)) (.nil))))) (F:=fun k s=>A8k k s.1.1 s.1.2.1) (fun k s r h=>(e17 (A1W k) (A1O k) (A1R k) (A1V k) (F8 k) (A2o k) (A1v k) (M9 k) (A2E k) (L5 k) (E2 k) (J3 k) (L3 k) (D9 k) (A2b k) s).trans (b17 k s.1.1 s.1.2.1 r h)) k
theorem F5s (k:Nat) (x0:(List TQ)) (x1:(List TQ)) (x12:Int) (x13:Int):A0 (A0a (k+1) x0 x1 x12 x13) (A8u (A0a k) x0 x1 x12 x13):=by rw [A0a];exact A0.refl _
theorem b18 (k:Nat) (x0:(List TQ)) (x1:(List TQ)):A0 (n6 k x0 x1) (B18 (A0a k) x0 x1):=A0.refl _
theorem D5o (k:Nat):B5 Tryz.prog (C4K (n6 k)):=
 B6 B7 HM D18 (es:=fun k=>[]) (fun k=>fz) Tryz.func18 1 (by kernel_rfl) (fun s=>rfl) (fun k=>C3C (A0a k)) (fc ⟨fun s=>rfl,fz⟩) (fun k s0=> .cons (by kernel_rfl) (by kernel_rfl) (fun s r h=>(E1m (A0a k) s0 s).trans (F5s k s.1.1 s.1.2.1 s.1.2.2.1 s.1.2.2.2.1 r h)) (.nil)) (F:=fun k s=>n6 k s.1.1 s.1.2.1) (fun k s r h=>(e18 (A0a k) s).trans (b18 k s.1.1 s.1.2.1 r h)) k
theorem E3n (k:Nat) (x0:(List TQ)) (x3:Int):A0 (A0L (k+1) x0 x3) (A9X (A0L k) (Q5 k) x0 x3):=by rw [A0L];exact A0.refl _
theorem b48 (k:Nat) (x0:(List TQ)):A0 (F1 k x0) (B48 (A0L k) x0):=A0.refl _
theorem B2U (k:Nat):B5 Tryz.prog (A8z (F1 k)):=
 B6 B7 HM D48 (es:=fun k=>C7x (Q5 k)) (fun k=>fc ⟨D7l k,fz⟩) Tryz.func48 1 (by kernel_rfl) (fun s=>rfl) (fun k=>C7s (A0L k)) (fc ⟨fun s=>rfl,fz⟩) (fun k s0=> .cons (by kernel_rfl) (by kernel_rfl) (fun s r h=>(E8i (A0L k) (Q5 k) s0 s).trans (E3n k s.1.1 s.1.2.1 r h)) (.nil)) (F:=fun k s=>F1 k s.1.1) (fun k s r h=>(e48 (A0L k) (Q5 k) s).trans (b48 k s.1.1 r h)) k
theorem E2l (k:Nat) (x6:(List Int)) (x7:Int) (x8:Int) (x3:(List TQ)):A0 (A4f (k+1) x6 x7 x8 x3) (D0n (A4f k) (F1 k) (E6 k) x6 x7 x8 x3):=by rw [A4f];exact A0.refl _
theorem b22 (k:Nat) (x0:(List Int)):A0 (A8J k x0) (B22 (A4f k) x0):=A0.refl _
theorem F7W (k:Nat):B5 Tryz.prog (D6C (A8J k)):=
 B6 B7 HM D22 (es:=fun k=>C4l (F1 k) (E6 k)) (fun k=>fc ⟨B2U k,fc ⟨A7C k,fz⟩⟩) Tryz.func22 1 (by kernel_rfl) (fun s=>rfl) (fun k=>C7K (A4f k)) (fc ⟨fun s=>rfl,fz⟩) (fun k s0=> .cons (by kernel_rfl) (by kernel_rfl) (fun s r h=>(F0F (A4f k) (F1 k) (E6 k) s0 s).trans (E2l k s.1.1 s.1.2.1 s.1.2.2.1 s.2.1 r h)) (.nil)) (F:=fun k s=>A8J k s.1.1) (fun k s r h=>(e22 (A4f k) (F1 k) (E6 k) s).trans (b22 k s.1.1 r h)) k
theorem E5h (k:Nat) (x11:(List TQ)) (x12:Int) (x13:Int) (x3:TQ) (x5:(List TQ)):A0 (A5R (k+1) x11 x12 x13 x3 x5) (C1G (A5R k) (D9 k) (F0 k) x11 x12 x13 x3 x5):=by rw [A5R];exact A0.refl _
theorem F2S (k:Nat) (x0:(List TQ)) (x1:TQ):A0 (A5e k x0 x1) (C5G (A5R k) x0 x1):=A0.refl _
theorem F4s (k:Nat):B5 Tryz.prog (D1e (A5e k)):=
 B6 B7 HM B0Y (es:=fun k=>C7g (D9 k) (F0 k)) (fun k=>fc ⟨A8i k,fc ⟨B3k k,fz⟩⟩) Tryz.func137 1 (by kernel_rfl) (fun s=>rfl) (fun k=>C4H (A5R k)) (fc ⟨fun s=>rfl,fz⟩) (fun k s0=> .cons (by kernel_rfl) (by kernel_rfl) (fun s r h=>(E3G (A5R k) (D9 k) (F0 k) s0 s).trans (E5h k s.1.1 s.1.2.1 s.1.2.2.1 s.2.1 s.2.2.1 r h)) (.nil)) (F:=fun k s=>A5e k s.1.1 s.1.2.1) (fun k s r h=>(F4M (A5R k) (D9 k) (F0 k) s).trans (F2S k s.1.1 s.1.2.1 r h)) k
theorem E7w (k:Nat) (x0:(List TQ)) (x1:(List TQ)) (x14:Int) (x15:Int) (x5:(List TQ)):A0 (z6 (k+1) x0 x1 x14 x15 x5) (A8Y (z6 k) (L5 k) (D9 k) (Y3 k) x0 x1 x14 x15 x5):=by rw [z6];exact A0.refl _
theorem F7Z (k:Nat) (x0:(List TQ)) (x1:(List TQ)):A0 (S0 k x0 x1) (B5V (z6 k) x0 x1):=A0.refl _
theorem C8a (k:Nat):B5 Tryz.prog (C0r (S0 k)):=
 B6 B7 HM A9d (es:=fun k=>C4C (L5 k) (D9 k) (Y3 k)) (fun k=>fc ⟨C4N k,fc ⟨A8i k,fc ⟨D8e k,fz⟩⟩⟩) Tryz.func166 1 (by kernel_rfl) (fun s=>rfl) (fun k=>C6M (z6 k)) (fc ⟨fun s=>rfl,fz⟩) (fun k s0=> .cons (by kernel_rfl) (by kernel_rfl) (fun s r h=>(D9o (z6 k) (L5 k) (D9 k) (Y3 k) s0 s).trans (E7w k s.1.1 s.1.2.1 s.1.2.2.1 s.1.2.2.2.1 s.2.1 r h)) (.nil)) (F:=fun k s=>S0 k s.1.1 s.1.2.1) (fun k s r h=>(E7p (z6 k) (L5 k) (D9 k) (Y3 k) s).trans (F7Z k s.1.1 s.1.2.1 r h)) k
theorem F6g (k:Nat) (x0:(List TQ)) (x6:(List TQ)) (x7:(List TQ)) (x8:(List TQ)) (x9:(List TQ)):A0 (A5N (k+1) x0 x6 x7 x8 x9) (C5f (A5N k) (L3 k) (A5e k) (W3 k) (Q2 k) (O8 k) (S0 k) x0 x6 x7 x8 x9):=by rw [A5N];exact A0.refl _
theorem F1a (k:Nat) (x0:(List TQ)) (x1:(List TQ)):A0 (A1p k x0 x1) (C8G (A5N k) (M9 k) (O8 k) x0 x1):=A0.refl _
theorem D1H (k:Nat):B5 Tryz.prog (C1R (A1p k)):=
 B6 B7 HM B0G (es:=fun k=>D0c (M9 k) (L3 k) (A5e k) (W3 k) (Q2 k) (O8 k) (S0 k)) (fun k=>fc ⟨B9z k,fc ⟨B6e k,fc ⟨F4s k,fc ⟨C3B k,fc ⟨D0p k,fc ⟨C4S k,fc ⟨C8a k,fz⟩⟩⟩⟩⟩⟩⟩) Tryz.func106 1 (by kernel_rfl) (fun s=>rfl) (fun k=>C2W (A5N k)) (fc ⟨fun s=>rfl,fz⟩) (fun k s0=> .cons (by kernel_rfl) (by kernel_rfl) (fun s r h=>(F6v (A5N k) (M9 k) (L3 k) (A5e k) (W3 k) (Q2 k) (O8 k) (S0 k) s0 s).trans (F6g k s.1.1 s.1.2.1 s.1.2.2.1 s.1.2.2.2.1 s.1.2.2.2.2.1 r h)) (.nil)) (F:=fun k s=>A1p k s.1.1 s.1.2.1) (fun k s r h=>(E6z (A5N k) (M9 k) (L3 k) (A5e k) (W3 k) (Q2 k) (O8 k) (S0 k) s).trans (F1a k s.1.1 s.1.2.1 r h)) k
theorem F7S (k:Nat) (x0:(List (List TQ))) (x3:Int):A0 (A0N (k+1) x0 x3) (A6v (A0N k) x0 x3):=by rw [A0N];exact A0.refl _
theorem F6k (k:Nat) (x0:(List (List TQ))):A0 (E7 k x0) (B2x (A0N k) x0):=A0.refl _
theorem A9w (k:Nat):B5 Tryz.prog (A8S (E7 k)):=
 B6 B7 HM B2e (es:=fun k=>[]) (fun k=>fz) Tryz.func122 1 (by kernel_rfl) (fun s=>rfl) (fun k=>C6k (A0N k)) (fc ⟨fun s=>rfl,fz⟩) (fun k s0=> .cons (by kernel_rfl) (by kernel_rfl) (fun s r h=>(F2g (A0N k) s0 s).trans (F7S k s.1.1 s.1.2.1 r h)) (.nil)) (F:=fun k s=>E7 k s.1.1) (fun k s r h=>(E3r (A0N k) s).trans (F6k k s.1.1 r h)) k
theorem E3H (k:Nat) (x2:(List (List TQ))) (x3:(List TQ)) (x11:Int) (x13:Int) (x4:(List TQ)) (x10:(List (List TQ))) (x12:(List (List TQ))):A0 (A1H (k+1) x2 x3 x11 x13 x4 x10 x12) (C5C (A1H k) (A3m k) (E7 k) (U3 k) x2 x3 x11 x13 x4 x10 x12):=by rw [A1H];exact A0.refl _
theorem F1h (k:Nat) (x2:(List (List TQ))) (x3:(List TQ)) (x11:Int) (x13:Int) (x14:(List TQ)) (x60:Int) (x61:Int) (x4:(List TQ)) (x10:(List (List TQ))) (x12:(List (List TQ))):A0 (A3m (k+1) x2 x3 x11 x13 x14 x60 x61 x4 x10 x12) (C2Q (A1H k) (A3m k) (U3 k) (S0 k) x2 x3 x11 x13 x14 x60 x61 x4 x10 x12):=by rw [A3m];exact A0.refl _
theorem E3T (k:Nat) (x0:(List TQ)) (x1:(List (List TQ))) (x2:(List (List TQ))) (x3:(List TQ)):A0 (A1J k x0 x1 x2 x3) (C6K (A1H k) (E7 k) x0 x1 x2 x3):=A0.refl _
theorem D9M (k:Nat):B5 Tryz.prog (C3X (A1J k)):=
 B6 B7 HM A6C (es:=fun k=>B7x (E7 k) (U3 k) (S0 k)) (fun k=>fc ⟨A9w k,fc ⟨D0b k,fc ⟨C8a k,fz⟩⟩⟩) Tryz.func107 2 (by kernel_rfl) (fun s=>rfl) (fun k=>B5s (A1H k) (A3m k)) (fc ⟨fun s=>rfl,fc ⟨fun s=>rfl,fz⟩⟩) (fun k s0=> .cons (by kernel_rfl) (by kernel_rfl) (fun s r h=>(E2o (A1H k) (A3m k) (E7 k) (U3 k) (S0 k) s0 s).trans (E3H k s.1.1 s.1.2.1 s.1.2.2.1 s.1.2.2.2.1 s.2.1 s.2.2.1 s.2.2.2.1 r h)) (.cons (by kernel_rfl) (by kernel_rfl) (fun s r h=>(E6f (A1H k) (A3m k) (E7 k) (U3 k) (S0 k) s0 s).trans (F1h k s.1.1 s.1.2.1 s.1.2.2.1 s.1.2.2.2.1 s.1.2.2.2.2.1 s.1.2.2.2.2.2.1 s.1.2.2.2.2.2.2.1 s.2.1 s.2.2.1 s.2.2.2.1 r h)) (.nil))) (F:=fun k s=>A1J k s.1.1 s.1.2.1 s.1.2.2.1 s.1.2.2.2.1) (fun k s r h=>(F5r (A1H k) (A3m k) (E7 k) (U3 k) (S0 k) s).trans (E3T k s.1.1 s.1.2.1 s.1.2.2.1 s.1.2.2.2.1 r h)) k
theorem F5o (k:Nat) (x0:(List TQ)):A0 (A1Y k x0) (D0y (A1L k) x0):=A0.refl _
theorem E2i (k:Nat):B5 Tryz.prog (D6h (A1Y k)):=
 B6 B7 HM B8z (es:=fun k=>D2K (A1L k)) (fun k=>fc ⟨D8M k,fz⟩) Tryz.func176 0 (by kernel_rfl) (fun s=>rfl) (fun k=>[]) (fz) (fun k s0=> .nil) (F:=fun k s=>A1Y k s.1.1) (fun k s r h=>(F7I (A1L k) s).trans (F5o k s.1.1 r h)) k
theorem E7y (k:Nat) (x0:(List (List TQ))) (x7:Int) (x8:Int):A0 (A0W (k+1) x0 x7 x8) (A7e (A0W k) (A1Y k) x0 x7 x8):=by rw [A0W];exact A0.refl _
theorem E3a (k:Nat) (x0:(List (List TQ))):A0 (A5c k x0) (B5l (A0W k) x0):=A0.refl _
theorem F5j (k:Nat):B5 Tryz.prog (D5P (A5c k)):=
 B6 B7 HM B0n (es:=fun k=>C5g (A1Y k)) (fun k=>fc ⟨E2i k,fz⟩) Tryz.func216 1 (by kernel_rfl) (fun s=>rfl) (fun k=>C9t (A0W k)) (fc ⟨fun s=>rfl,fz⟩) (fun k s0=> .cons (by kernel_rfl) (by kernel_rfl) (fun s r h=>(E8D (A0W k) (A1Y k) s0 s).trans (E7y k s.1.1 s.1.2.1 s.1.2.2.1 r h)) (.nil)) (F:=fun k s=>A5c k s.1.1) (fun k s r h=>(F4q (A0W k) (A1Y k) s).trans (E3a k s.1.1 r h)) k
theorem E5L (k:Nat) (x0:(List (List TQ))):A0 (A8O k x0) (C7S (A5c k) x0):=A0.refl _
theorem F1k (k:Nat):B5 Tryz.prog (D1b (A8O k)):=
 B6 B7 HM C0o (es:=fun k=>D5m (A5c k)) (fun k=>fc ⟨F5j k,fz⟩) Tryz.func175 0 (by kernel_rfl) (fun s=>rfl) (fun k=>[]) (fz) (fun k s0=> .nil) (F:=fun k s=>A8O k s.1.1) (fun k s r h=>(E1z (A5c k) s).trans (E5L k s.1.1 r h)) k
theorem E8q (k:Nat) (x0:(List (List TQ))):A0 (A4g k x0) (C2m (A8O k) x0):=A0.refl _
theorem E6T (k:Nat):B5 Tryz.prog (D3b (A4g k)):=
 B6 B7 HM B8P (es:=fun k=>D5V (A8O k)) (fun k=>fc ⟨F1k k,fz⟩) Tryz.func128 0 (by kernel_rfl) (fun s=>rfl) (fun k=>[]) (fz) (fun k s0=> .nil) (F:=fun k s=>A4g k s.1.1) (fun k s r h=>(E6x (A8O k) s).trans (E8q k s.1.1 r h)) k
theorem E7n (k:Nat) (x0:(List (List TQ))):A0 (K4 k x0) (B5M (A4g k) x0):=A0.refl _
theorem B0g (k:Nat):B5 Tryz.prog (A7n (K4 k)):=
 B6 B7 HM B8o (es:=fun k=>D6e (A4g k)) (fun k=>fc ⟨E6T k,fz⟩) Tryz.func108 0 (by kernel_rfl) (fun s=>rfl) (fun k=>[]) (fz) (fun k s0=> .nil) (F:=fun k s=>K4 k s.1.1) (fun k s r h=>(E1w (A4g k) s).trans (E7n k s.1.1 r h)) k
theorem b28 (k:Nat) (x0:(List TQ)) (x1:(List (List TQ))) (x2:(List (List TQ))):A0 (A7O k x0 x1 x2) (B28 (F8 k) (A1p k) (A1J k) (K4 k) x0 x1 x2):=A0.refl _
theorem E9t (k:Nat):B5 Tryz.prog (D3Q (A7O k)):=
 B6 B7 HM D28 (es:=fun k=>D2S (F8 k) (A1p k) (A1J k) (K4 k)) (fun k=>fc ⟨A8x k,fc ⟨D1H k,fc ⟨D9M k,fc ⟨B0g k,fz⟩⟩⟩⟩) Tryz.func28 0 (by kernel_rfl) (fun s=>rfl) (fun k=>[]) (fz) (fun k s0=> .nil) (F:=fun k s=>A7O k s.1.1 s.1.2.1 s.1.2.2.1) (fun k s r h=>(e28 (F8 k) (A1p k) (A1J k) (K4 k) s).trans (b28 k s.1.1 s.1.2.1 s.1.2.2.1 r h)) k
theorem F5i (k:Nat) (x0:(List (List TQ))) (x1:(List (List TQ))) (x12:Int) (x13:Int):A0 (A0p (k+1) x0 x1 x12 x13) (A7B (A0p k) (n6 k) x0 x1 x12 x13):=by rw [A0p];exact A0.refl _
theorem b29 (k:Nat) (x0:(List (List TQ))) (x1:(List (List TQ))):A0 (N5 k x0 x1) (B29 (A0p k) x0 x1):=A0.refl _
theorem B9Z (k:Nat):B5 Tryz.prog (B4N (N5 k)):=
 B6 B7 HM D29 (es:=fun k=>C9A (n6 k)) (fun k=>fc ⟨D5o k,fz⟩) Tryz.func29 1 (by kernel_rfl) (fun s=>rfl) (fun k=>C4z (A0p k)) (fc ⟨fun s=>rfl,fz⟩) (fun k s0=> .cons (by kernel_rfl) (by kernel_rfl) (fun s r h=>(F4z (A0p k) (n6 k) s0 s).trans (F5i k s.1.1 s.1.2.1 s.1.2.2.1 s.1.2.2.2.1 r h)) (.nil)) (F:=fun k s=>N5 k s.1.1 s.1.2.1) (fun k s r h=>(e29 (A0p k) (n6 k) s).trans (b29 k s.1.1 s.1.2.1 r h)) k
theorem F4v (k:Nat) (x2:(List TQ)) (x13:(List (List TQ))) (x14:Int) (x15:Int) (x3:(List TQ)) (x7:(List (List TQ))):A0 (A4V (k+1) x2 x13 x14 x15 x3 x7) (C3h (A4V k) (E7 k) (U3 k) x2 x13 x14 x15 x3 x7):=by rw [A4V];exact A0.refl _
theorem F1X (k:Nat) (x0:(List TQ)) (x1:(List (List TQ))) (x2:(List TQ)):A0 (A8Q k x0 x1 x2) (C9M (A4V k) x0 x1 x2):=A0.refl _
theorem F1d (k:Nat):B5 Tryz.prog (D3r (A8Q k)):=
 B6 B7 HM B0l (es:=fun k=>C5y (E7 k) (U3 k)) (fun k=>fc ⟨A9w k,fc ⟨D0b k,fz⟩⟩) Tryz.func131 1 (by kernel_rfl) (fun s=>rfl) (fun k=>C6I (A4V k)) (fc ⟨fun s=>rfl,fz⟩) (fun k s0=> .cons (by kernel_rfl) (by kernel_rfl) (fun s r h=>(F3B (A4V k) (E7 k) (U3 k) s0 s).trans (F4v k s.1.1 s.1.2.1 s.1.2.2.1 s.1.2.2.2.1 s.2.1 s.2.2.1 r h)) (.nil)) (F:=fun k s=>A8Q k s.1.1 s.1.2.1 s.1.2.2.1) (fun k s r h=>(F4g (A4V k) (E7 k) (U3 k) s).trans (F1X k s.1.1 s.1.2.1 s.1.2.2.1 r h)) k
theorem E7j (k:Nat) (x0:(List TQ)) (x1:(List (List TQ))):A0 (A6L k x0 x1) (C9Y (A1p k) (A8Q k) x0 x1):=A0.refl _
theorem F6S (k:Nat):B5 Tryz.prog (D6T (A6L k)):=
 B6 B7 HM B8H (es:=fun k=>D1E (A1p k) (A8Q k)) (fun k=>fc ⟨D1H k,fc ⟨F1d k,fz⟩⟩) Tryz.func110 0 (by kernel_rfl) (fun s=>rfl) (fun k=>[]) (fz) (fun k s0=> .nil) (F:=fun k s=>A6L k s.1.1 s.1.2.1) (fun k s r h=>(F5a (A1p k) (A8Q k) s).trans (E7j k s.1.1 s.1.2.1 r h)) k
theorem E8K (k:Nat) (x0:(List (List TQ))):A0 (A7j k x0) (C8u x0):=A0.refl _
theorem E2r (k:Nat):B5 Tryz.prog (D6z (A7j k)):=
 B6 B7 HM B7y (es:=fun k=>[]) (fun k=>fz) Tryz.func112 0 (by kernel_rfl) (fun s=>rfl) (fun k=>[]) (fz) (fun k s0=> .nil) (F:=fun k s=>A7j k s.1.1) (fun k s r h=>(F5K s).trans (E8K k s.1.1 r h)) k
theorem E8J (k:Nat) (x0:((List (List TQ))×Unit)):A0 (A5X k x0) (C1x (K4 k) (A7j k) x0):=A0.refl _
theorem E9F (k:Nat):B5 Tryz.prog (D7k (A5X k)):=
 B6 B7 HM B8Q (es:=fun k=>D7c (K4 k) (A7j k)) (fun k=>fc ⟨B0g k,fc ⟨E2r k,fz⟩⟩) Tryz.func111 0 (by kernel_rfl) (fun s=>rfl) (fun k=>[]) (fz) (fun k s0=> .nil) (F:=fun k s=>A5X k s.1.1) (fun k s r h=>(E2c (K4 k) (A7j k) s).trans (E8J k s.1.1 r h)) k
theorem E8o (k:Nat) (x3:(List TQ)) (x9:((List (List TQ))×(List (List TQ)))):A0 (A4L (k+1) x3 x9) (C8X (A4L k) (M9 k) (A1J k) (A6L k) (A5X k) x3 x9):=by rw [A4L];exact A0.refl _
theorem b31 (k:Nat) (x0:(List TQ)) (x1:(List (List TQ))) (x2:(List (List TQ))):A0 (A7u k x0 x1 x2) (B31 (A4L k) (F8 k) x0 x1 x2):=A0.refl _
theorem E5Q (k:Nat):B5 Tryz.prog (D5S (A7u k)):=
 B6 B7 HM D31 (es:=fun k=>C8Q (F8 k) (M9 k) (A1J k) (A6L k) (A5X k)) (fun k=>fc ⟨A8x k,fc ⟨B9z k,fc ⟨D9M k,fc ⟨F6S k,fc ⟨E9F k,fz⟩⟩⟩⟩⟩) Tryz.func31 1 (by kernel_rfl) (fun s=>rfl) (fun k=>C7k (A4L k)) (fc ⟨fun s=>rfl,fz⟩) (fun k s0=> .cons (by kernel_rfl) (by kernel_rfl) (fun s r h=>(F4D (A4L k) (F8 k) (M9 k) (A1J k) (A6L k) (A5X k) s0 s).trans (E8o k s.2.1 s.2.2.1 r h)) (.nil)) (F:=fun k s=>A7u k s.1.1 s.1.2.1 s.1.2.2.1) (fun k s r h=>(e31 (A4L k) (F8 k) (M9 k) (A1J k) (A6L k) (A5X k) s).trans (b31 k s.1.1 s.1.2.1 s.1.2.2.1 r h)) k
theorem E1l (k:Nat) (x0:(List (List TQ))) (x1:Int):A0 (X4 k x0 x1) (B3X x0 x1):=A0.refl _
theorem D5l (k:Nat):B5 Tryz.prog (C9q (X4 k)):=
 B6 B7 HM B7s (es:=fun k=>[]) (fun k=>fz) Tryz.func174 0 (by kernel_rfl) (fun s=>rfl) (fun k=>[]) (fz) (fun k s0=> .nil) (F:=fun k s=>X4 k s.1.1 s.1.2.1) (fun k s r h=>(E5Y s).trans (E1l k s.1.1 s.1.2.1 r h)) k
theorem F1f (k:Nat) (x0:(List (List TQ))) (x1:(List (List TQ))) (x14:Int) (x15:Int) (x5:(List (List TQ))):A0 (A1B (k+1) x0 x1 x14 x15 x5) (A8U (A1B k) (J3 k) (E7 k) (X4 k) x0 x1 x14 x15 x5):=by rw [A1B];exact A0.refl _
theorem E5r (k:Nat) (x0:(List (List TQ))) (x1:(List (List TQ))):A0 (v6 k x0 x1) (B4p (A1B k) x0 x1):=A0.refl _
theorem D4M (k:Nat):B5 Tryz.prog (C3F (v6 k)):=
 B6 B7 HM B1m (es:=fun k=>C6m (J3 k) (E7 k) (X4 k)) (fun k=>fc ⟨B8D k,fc ⟨A9w k,fc ⟨D5l k,fz⟩⟩⟩) Tryz.func126 1 (by kernel_rfl) (fun s=>rfl) (fun k=>C6Y (A1B k)) (fc ⟨fun s=>rfl,fz⟩) (fun k s0=> .cons (by kernel_rfl) (by kernel_rfl) (fun s r h=>(F1H (A1B k) (J3 k) (E7 k) (X4 k) s0 s).trans (F1f k s.1.1 s.1.2.1 s.1.2.2.1 s.1.2.2.2.1 s.2.1 r h)) (.nil)) (F:=fun k s=>v6 k s.1.1 s.1.2.1) (fun k s r h=>(E5q (A1B k) (J3 k) (E7 k) (X4 k) s).trans (E5r k s.1.1 s.1.2.1 r h)) k
theorem F7v (k:Nat) (x2:(List (List TQ))) (x28:(List (List TQ))) (x29:Int) (x30:Int) (x3:(List TQ)) (x7:(List (List TQ))):A0 (o8 (k+1) x2 x28 x29 x30 x3 x7) (A8j (j8 k) (f7 k) x2 x28 x29 x30 x3 x7):=by rw [o8];exact A0.refl _
theorem F8F (k:Nat) (x2:(List (List TQ))) (x8:Int) (x9:(List TQ)) (x28:(List (List TQ))) (x29:Int) (x30:Int) (x35:(List (List TQ))) (x36:Int) (x37:Int) (x3:(List TQ)) (x7:(List (List TQ))):A0 (j8 (k+1) x2 x8 x9 x28 x29 x30 x35 x36 x37 x3 x7) (A8h (o8 k) (j8 k) (J3 k) (L3 k) x2 x8 x9 x28 x29 x30 x35 x36 x37 x3 x7):=by rw [j8];exact A0.refl _
theorem E8y (k:Nat) (x60:Int) (x61:Int) (x3:(List TQ)) (x7:(List (List TQ))):A0 (f7 (k+1) x60 x61 x3 x7) (A8L (f7 k) (E7 k) (O8 k) x60 x61 x3 x7):=by rw [f7];exact A0.refl _
theorem F3m (k:Nat) (x0:(List TQ)) (x1:(List (List TQ))) (x2:(List (List TQ))):A0 (v3 k x0 x1 x2) (B3L (o8 k) x0 x1 x2):=A0.refl _
theorem D5k (k:Nat):B5 Tryz.prog (C2p (v3 k)):=
 B6 B7 HM A3E (es:=fun k=>B3x (J3 k) (L3 k) (E7 k) (O8 k)) (fun k=>fc ⟨B8D k,fc ⟨B6e k,fc ⟨A9w k,fc ⟨C4S k,fz⟩⟩⟩⟩) Tryz.func127 3 (by kernel_rfl) (fun s=>rfl) (fun k=>B4b (o8 k) (j8 k) (f7 k)) (fc ⟨fun s=>rfl,fc ⟨fun s=>rfl,fc ⟨fun s=>rfl,fz⟩⟩⟩) (fun k s0=> .cons (by kernel_rfl) (by kernel_rfl) (fun s r h=>(F2n (o8 k) (j8 k) (f7 k) (J3 k) (L3 k) (E7 k) (O8 k) s0 s).trans (F7v k s.1.1 s.1.2.1 s.1.2.2.1 s.1.2.2.2.1 s.2.1 s.2.2.1 r h)) (.cons (by kernel_rfl) (by kernel_rfl) (fun s r h=>(E5T (o8 k) (j8 k) (f7 k) (J3 k) (L3 k) (E7 k) (O8 k) s0 s).trans (F8F k s.1.1 s.1.2.1 s.1.2.2.1 s.1.2.2.2.1 s.1.2.2.2.2.1 s.1.2.2.2.2.2.1 s.1.2.2.2.2.2.2.1 s.1.2.2.2.2.2.2.2.1 s.1.2.2.2.2.2.2.2.2.1 s.2.1 s.2.2.1 r h)) (.cons (by kernel_rfl) (by kernel_rfl) (fun s r h=>(E1c (o8 k) (j8 k) (f7 k) (J3 k) (L3 k) (E7 k) (O8 k) s0 s).trans (E8y k s.1.1 s.1.2.1 s.2.1 s.2.2.1 r h)) (.nil)))) (F:=fun k s=>v3 k s.1.1 s.1.2.1 s.1.2.2.1) (fun k s r h=>(E3Q (o8 k) (j8 k) (f7 k) (J3 k) (L3 k) (E7 k) (O8 k) s).trans (F3m k s.1.1 s.1.2.1 s.1.2.2.1 r h)) k
theorem F3j (k:Nat) (x1:(List (List TQ))) (x2:(List TQ)) (x4:(List (List TQ))) (x5:(List (List TQ))) (x6:Int):A0 (A5S (k+1) x1 x2 x4 x5 x6) (C5d (A5S k) (E7 k) (v6 k) (v3 k) x1 x2 x4 x5 x6):=by rw [A5S];exact A0.refl _
theorem E1D (k:Nat) (x0:(List TQ)) (x1:(List (List TQ))) (x2:(List TQ)):A0 (A7r k x0 x1 x2) (C2F (A5S k) (M9 k) (E7 k) x0 x1 x2):=A0.refl _
theorem E2N (k:Nat):B5 Tryz.prog (D6t (A7r k)):=
 B6 B7 HM B1O (es:=fun k=>C1a (M9 k) (E7 k) (v6 k) (v3 k)) (fun k=>fc ⟨B9z k,fc ⟨A9w k,fc ⟨D4M k,fc ⟨D5k k,fz⟩⟩⟩⟩) Tryz.func125 1 (by kernel_rfl) (fun s=>rfl) (fun k=>C4h (A5S k)) (fc ⟨fun s=>rfl,fz⟩) (fun k s0=> .cons (by kernel_rfl) (by kernel_rfl) (fun s r h=>(F6f (A5S k) (M9 k) (E7 k) (v6 k) (v3 k) s0 s).trans (F3j k s.1.1 s.1.2.1 s.1.2.2.1 s.1.2.2.2.1 s.1.2.2.2.2.1 r h)) (.nil)) (F:=fun k s=>A7r k s.1.1 s.1.2.1 s.1.2.2.1) (fun k s r h=>(F3Y (A5S k) (M9 k) (E7 k) (v6 k) (v3 k) s).trans (E1D k s.1.1 s.1.2.1 s.1.2.2.1 r h)) k
theorem E7z (k:Nat) (x0:((List TQ)×(List (List TQ))×(List TQ)×Unit)):A0 (A8n k x0) (C3v (K4 k) (A7r k) x0):=A0.refl _
theorem E7x (k:Nat):B5 Tryz.prog (D2v (A8n k)):=
 B6 B7 HM C0V (es:=fun k=>D1G (K4 k) (A7r k)) (fun k=>fc ⟨B0g k,fc ⟨E2N k,fz⟩⟩) Tryz.func111 0 (by kernel_rfl) (fun s=>rfl) (fun k=>[]) (fz) (fun k s0=> .nil) (F:=fun k s=>A8n k s.1.1) (fun k s r h=>(F6J (K4 k) (A7r k) s).trans (E7z k s.1.1 r h)) k
theorem b50 (k:Nat) (x0:(List TQ)) (x1:(List (List TQ))) (x2:(List TQ)):A0 (A8I k x0 x1 x2) (B50 (F8 k) (A8n k) (o3 k) x0 x1 x2):=A0.refl _
theorem F7y (k:Nat):B5 Tryz.prog (D6Q (A8I k)):=
 B6 B7 HM D50 (es:=fun k=>D2e (F8 k) (A8n k) (o3 k)) (fun k=>fc ⟨A8x k,fc ⟨E7x k,fc ⟨D5g k,fz⟩⟩⟩) Tryz.func50 0 (by kernel_rfl) (fun s=>rfl) (fun k=>[]) (fz) (fun k s0=> .nil) (F:=fun k s=>A8I k s.1.1 s.1.2.1 s.1.2.2.1) (fun k s r h=>(e50 (F8 k) (A8n k) (o3 k) s).trans (b50 k s.1.1 s.1.2.1 s.1.2.2.1 r h)) k
theorem b16 (k:Nat):A0 (A3T k) (B16 (A8k k) (n6 k) (A8J k) (A7O k) (N5 k) (A7u k) (A8I k)):=A0.refl _
theorem E6A (k:Nat):B5 Tryz.prog (D4Z (A3T k)):=
 B6 B7 HM D16 (es:=fun k=>D5q (A8k k) (n6 k) (A8J k) (A7O k) (N5 k) (A7u k) (A8I k)) (fun k=>fc ⟨E3q k,fc ⟨D5o k,fc ⟨F7W k,fc ⟨E9t k,fc ⟨B9Z k,fc ⟨E5Q k,fc ⟨F7y k,fz⟩⟩⟩⟩⟩⟩⟩) Tryz.func16 0 (by kernel_rfl) (fun s=>rfl) (fun k=>[]) (fz) (fun k s0=> .nil) (F:=fun k s=>A3T k) (fun k s r h=>(e16 (A8k k) (n6 k) (A8J k) (A7O k) (N5 k) (A7u k) (A8I k) s).trans (b16 k r h)) k
theorem E2m (k:Nat) (x5:(List Int)) (x6:Int) (x7:Int):A0 (z9 (k+1) x5 x6 x7) (A7m (z9 k) x5 x6 x7):=by rw [z9];exact A0.refl _
theorem b34 (k:Nat) (x0:(List Int)):A0 (A5I k x0) (B34 (z9 k) x0):=A0.refl _
theorem E3O (k:Nat):B5 Tryz.prog (D3l (A5I k)):=
 B6 B7 HM D34 (es:=fun k=>[]) (fun k=>fz) Tryz.func34 1 (by kernel_rfl) (fun s=>rfl) (fun k=>C2f (z9 k)) (fc ⟨fun s=>rfl,fz⟩) (fun k s0=> .cons (by kernel_rfl) (by kernel_rfl) (fun s r h=>(F1F (z9 k) s0 s).trans (E2m k s.1.1 s.1.2.1 s.1.2.2.1 r h)) (.nil)) (F:=fun k s=>A5I k s.1.1) (fun k s r h=>(e34 (z9 k) s).trans (b34 k s.1.1 r h)) k
theorem F2h (k:Nat) (x6:(List TQ)) (x7:Int) (x8:Int):A0 (A0q (k+1) x6 x7 x8) (A7Z (A0q k) (L7 k) x6 x7 x8):=by rw [A0q];exact A0.refl _
theorem D9i (k:Nat) (x0:(List TQ)):A0 (A2O k x0) (B3K (A0q k) x0):=A0.refl _
theorem E4L (k:Nat):B5 Tryz.prog (D8n (A2O k)):=
 B6 B7 HM B2f (es:=fun k=>C8k (L7 k)) (fun k=>fc ⟨D2m k,fz⟩) Tryz.func117 1 (by kernel_rfl) (fun s=>rfl) (fun k=>C3U (A0q k)) (fc ⟨fun s=>rfl,fz⟩) (fun k s0=> .cons (by kernel_rfl) (by kernel_rfl) (fun s r h=>(F6I (A0q k) (L7 k) s0 s).trans (F2h k s.1.1 s.1.2.1 s.1.2.2.1 r h)) (.nil)) (F:=fun k s=>A2O k s.1.1) (fun k s r h=>(F2p (A0q k) (L7 k) s).trans (D9i k s.1.1 r h)) k
theorem F5d (k:Nat) (x9:(List (List TQ))) (x10:Int) (x11:Int):A0 (A0Y (k+1) x9 x10 x11) (A7g (A0Y k) (A2O k) x9 x10 x11):=by rw [A0Y];exact A0.refl _
theorem b44 (k:Nat) (x0:(List (List TQ))):A0 (Q7 k x0) (B44 (A0Y k) x0):=A0.refl _
theorem C5q (k:Nat):B5 Tryz.prog (B7f (Q7 k)):=
 B6 B7 HM D44 (es:=fun k=>C3i (A2O k)) (fun k=>fc ⟨E4L k,fz⟩) Tryz.func44 1 (by kernel_rfl) (fun s=>rfl) (fun k=>C9Z (A0Y k)) (fc ⟨fun s=>rfl,fz⟩) (fun k s0=> .cons (by kernel_rfl) (by kernel_rfl) (fun s r h=>(F6Q (A0Y k) (A2O k) s0 s).trans (F5d k s.1.1 s.1.2.1 s.1.2.2.1 r h)) (.nil)) (F:=fun k s=>Q7 k s.1.1) (fun k s r h=>(e44 (A0Y k) (A2O k) s).trans (b44 k s.1.1 r h)) k
theorem F0j (k:Nat) (x0:TI):A0 (c9 k x0) (A4R x0):=A0.refl _
theorem D7I (k:Nat):B5 Tryz.prog (D0N (c9 k)):=
 B6 B7 HM B8I (es:=fun k=>[]) (fun k=>fz) Tryz.func159 0 (by kernel_rfl) (fun s=>rfl) (fun k=>[]) (fz) (fun k s0=> .nil) (F:=fun k s=>c9 k s.1.1) (fun k s r h=>(F4O s).trans (F0j k s.1.1 r h)) k
theorem E6B (k:Nat) (x0:Bool) (x1:ByteArray):A0 (j5 k x0 x1) (C7J x0 x1):=by
 show A0 (All.galoisref02_Make.f x0 x1) _
 unfold All.galoisref02_Make.f;unfold C7J;(try simp only [All.integer_zero.f,All.exact_stepAt.f,All.S24.f0,All.S24.f1,All.rd_T24,All.z24]);exact BR
theorem C1K (k:Nat):B5 Tryz.prog (B9a (j5 k)):=
 B6 B7 HM B9e (es:=fun k=>[]) (fun k=>fz) Tryz.func198 0 (by kernel_rfl) (fun s=>rfl) (fun k=>[]) (fz) (fun k s0=> .nil) (F:=fun k s=>j5 k s.1.1 s.1.2.1) (fun k s r h=>(D9q s).trans (E6B k s.1.1 s.1.2.1 r h)) k
noncomputable abbrev A8r (k:Nat) (x8:Int) (x9:Int) (x5:(List Int)) (x6:(List Int)) (x7:(List Int)):Option A2q:=All.galoisref01_Add.l0 k x5 x6 x7 x8 x9
theorem F3o (k:Nat) (x8:Int) (x9:Int) (x5:(List Int)) (x6:(List Int)) (x7:(List Int)):A0 (All.galoisref01_Add.l0 (k+1) x5 x6 x7 x8 x9) (C2H (A8r k) (I2 k) x8 x9 x5 x6 x7):=by
 rw [All.galoisref01_Add.l0]
 unfold C2H
 (try simp only [A8r,I2,J8,All.integer_zero.f,All.exact_stepAt.f,All.S24.f0,All.S24.f1,All.rd_T24,All.z24])
 (try simp only [E8,List.take_append_drop,List.drop_length,List.append_nil,Int.zero_sub,Int.toNat_natCast,Int.reduceToNat,Int.zero_add,List.take_zero,List.nil_append,List.append_assoc,List.length_set,W9,List.take_left,H3,bne,H6,decide_not,H0,if_true,if_false,Bool.false_eq_true,i9,m9,List.drop_zero,List.take_length,H2,F3,l9,C4,ite_not,Bool.and_eq_true,Bool.or_eq_true,Bool.not_eq_true',G7,Bool.not_eq_false',beq_iff_eq,decide_eq_true_eq,H7,G9,G4,ne_eq,H1,List.toList_toArray])
 repeat' first
 | (with_reducible refine A0.trans ((All.galoisref01_Add.mono_l k).2 _ _ _ _ _ _) ?_;rw [All.galoisref01_Add.j1];(try simp only [E8,if_true,if_false,decide_eq_true_eq,Bool.false_eq_true,decide_not,ite_not,bne,H6,beq_iff_eq,Bool.not_eq_true',G7,H1,List.toList_toArray,G9,G4,Bool.and_eq_true,Bool.or_eq_true,H7,H0,H2,All.integer_zero.f,F3,Int.toNat_natCast,Int.reduceToNat,Int.zero_sub,H3]))
 | (with_reducible exact A0.none _)
 | (with_reducible exact A0.refl _)
 | (with_reducible refine A0.posR (by with_reducible assumption) ?_)
 | (with_reducible refine A0.negR (by with_reducible assumption) ?_)
 | (with_reducible refine A0.bindR (by with_reducible assumption) ?_)
 | (with_reducible refine A0.posL (by with_reducible assumption) ?_)
 | (with_reducible refine A0.negL (by with_reducible assumption) ?_)
 | (with_reducible refine A0.iteL (fun _=>?_) (fun _=>?_))
 | (with_reducible refine A0.bindK (by with_reducible assumption) ?_)
 | (with_reducible refine A0.bindL (fun _ _=>?_))
 | (refine A0.posR (by first|decide|exact Int.le_refl _|omega|assumption) ?_)
 | (refine A0.negR (by first|decide|omega) ?_)
theorem F2M (k:Nat) (x0:ByteArray) (x1:ByteArray):A0 (A7Q k x0 x1) (C5h (A8r k) (J8 k) x0 x1):=by
 show A0 (All.galoisref01_Add.f k x0 x1) _
 unfold All.galoisref01_Add.f
 unfold C5h
 (try simp only [A8r,I2,J8,All.integer_zero.f,All.exact_stepAt.f,All.S24.f0,All.S24.f1,All.rd_T24,All.z24])
 (try simp only [E8,List.take_append_drop,List.drop_length,List.append_nil,Int.zero_sub,Int.toNat_natCast,Int.reduceToNat,Int.zero_add,List.take_zero,List.nil_append,List.append_assoc,List.length_set,W9,List.take_left,H3,bne,H6,decide_not,H0,if_true,if_false,Bool.false_eq_true,i9,m9,List.drop_zero,List.take_length,H2,F3,l9,C4,ite_not,Bool.and_eq_true,Bool.or_eq_true,Bool.not_eq_true',G7,Bool.not_eq_false',beq_iff_eq,decide_eq_true_eq,H7,G9,G4,ne_eq,H1,List.toList_toArray])
 repeat' first
 | (with_reducible refine A0.trans ((All.galoisref01_Add.mono_l k).2 _ _ _ _ _ _) ?_;rw [All.galoisref01_Add.j1];(try simp only [E8,if_true,if_false,decide_eq_true_eq,Bool.false_eq_true,decide_not,ite_not,bne,H6,beq_iff_eq,Bool.not_eq_true',G7,H1,List.toList_toArray,G9,G4,Bool.and_eq_true,Bool.or_eq_true,H7,H0,H2,All.integer_zero.f,F3,Int.toNat_natCast,Int.reduceToNat,Int.zero_sub,H3]))
 | (with_reducible exact A0.none _)
 | (with_reducible exact A0.refl _)
 | (with_reducible refine A0.posR (by with_reducible assumption) ?_)
 | (with_reducible refine A0.negR (by with_reducible assumption) ?_)
 | (with_reducible refine A0.bindR (by with_reducible assumption) ?_)
 | (with_reducible refine A0.posL (by with_reducible assumption) ?_)
 | (with_reducible refine A0.negL (by with_reducible assumption) ?_)
 | (with_reducible refine A0.iteL (fun _=>?_) (fun _=>?_))
 | (with_reducible refine A0.bindK (by with_reducible assumption) ?_)
 | (with_reducible refine A0.bindL (fun _ _=>?_))
 | (refine A0.posR (by first|decide|exact Int.le_refl _|omega|assumption) ?_)
 | (refine A0.negR (by first|decide|omega) ?_)
theorem E5a (k:Nat):B5 Tryz.prog (D1a (A7Q k)):=
 B6 B7 HM B2d (es:=fun k=>C7P (I2 k) (J8 k)) (fun k=>fc ⟨B5R k,fc ⟨B8g k,fz⟩⟩) Tryz.func199 1 (by kernel_rfl) (fun s=>rfl) (fun k=>C6u (A8r k)) (fc ⟨fun s=>rfl,fz⟩) (fun k s0=> .cons (by kernel_rfl) (by kernel_rfl) (fun s r h=>(F3c (A8r k) (I2 k) (J8 k) s0 s).trans (F3o k s.1.1 s.1.2.1 s.2.1 s.2.2.1 s.2.2.2.1 r h)) (.nil)) (F:=fun k s=>A7Q k s.1.1 s.1.2.1) (fun k s r h=>(F0n (A8r k) (I2 k) (J8 k) s).trans (F2M k s.1.1 s.1.2.1 r h)) k
theorem F7h (k:Nat) (x0:ByteArray) (x1:ByteArray):A0 (A0T k x0 x1) (D0E x0 x1):=by
 show A0 (All.galoisref01_Compare.f k x0 x1) _
 unfold All.galoisref01_Compare.f
 unfold D0E
 (try simp only [All.integer_zero.f,All.exact_stepAt.f,All.S24.f0,All.S24.f1,All.rd_T24,All.z24])
 (try simp only [E8,List.take_append_drop,List.drop_length,List.append_nil,Int.zero_sub,Int.toNat_natCast,Int.reduceToNat,Int.zero_add,List.take_zero,List.nil_append,List.append_assoc,List.length_set,W9,List.take_left,H3,bne,H6,decide_not,H0,if_true,if_false,Bool.false_eq_true,i9,m9,List.drop_zero,List.take_length,H2,F3,l9,C4,ite_not,Bool.and_eq_true,Bool.or_eq_true,Bool.not_eq_true',G7,Bool.not_eq_false',beq_iff_eq,decide_eq_true_eq,H7,G9,G4,ne_eq,H1,List.toList_toArray])
 repeat' first
 | (with_reducible refine A0.trans ((All.galoisref01_Compare.mono_l k) _ _ _) ?_;rw [All.galoisref01_Compare.j0];(try simp only [E8,if_true,if_false,decide_eq_true_eq,Bool.false_eq_true,decide_not,ite_not,bne,H6,beq_iff_eq,Bool.not_eq_true',G7,H1,List.toList_toArray,G9,G4,Bool.and_eq_true,Bool.or_eq_true,H7,H0,H2,All.integer_zero.f,F3,Int.toNat_natCast,Int.reduceToNat,Int.zero_sub,H3]))
 | (with_reducible exact A0.none _)
 | (with_reducible exact A0.refl _)
 | (with_reducible refine A0.posR (by with_reducible assumption) ?_)
 | (with_reducible refine A0.negR (by with_reducible assumption) ?_)
 | (with_reducible refine A0.bindR (by with_reducible assumption) ?_)
 | (with_reducible refine A0.posL (by with_reducible assumption) ?_)
 | (with_reducible refine A0.negL (by with_reducible assumption) ?_)
 | (with_reducible refine A0.iteL (fun _=>?_) (fun _=>?_))
 | (with_reducible refine A0.bindK (by with_reducible assumption) ?_)
 | (with_reducible refine A0.bindL (fun _ _=>?_))
 | (refine A0.posR (by first|decide|exact Int.le_refl _|omega|assumption) ?_)
 | (refine A0.negR (by first|decide|omega) ?_)
theorem D1n (k:Nat):B5 Tryz.prog (C2j (A0T k)):=
 B6 B7 HM C0l (es:=fun k=>[]) (fun k=>fz) Tryz.func200 0 (by kernel_rfl) (fun s=>rfl) (fun k=>[]) (fz) (fun k s0=> .nil) (F:=fun k s=>A0T k s.1.1 s.1.2.1) (fun k s r h=>(E6N s).trans (F7h k s.1.1 s.1.2.1 r h)) k
noncomputable abbrev A7i (k:Nat) (x7:Int) (x8:Int) (x5:(List Int)) (x6:(List Int)):Option A2B:=All.galoisref01_Sub.l0 k x5 x6 x7 x8
theorem F3I (k:Nat) (x7:Int) (x8:Int) (x5:(List Int)) (x6:(List Int)):A0 (All.galoisref01_Sub.l0 (k+1) x5 x6 x7 x8) (C4M (A7i k) (I2 k) x7 x8 x5 x6):=by rw [All.galoisref01_Sub.l0];unfold C4M;(try simp only [A7i,A0T,I2,J8,All.integer_zero.f,All.exact_stepAt.f,All.S24.f0,All.S24.f1,All.rd_T24,All.z24]);exact BR
theorem F2z (k:Nat) (x0:ByteArray) (x1:ByteArray):A0 (A9U k x0 x1) (C5Q (A7i k) (A0T k) (J8 k) x0 x1):=by
 show A0 (All.galoisref01_Sub.f k x0 x1) _
 unfold All.galoisref01_Sub.f;unfold C5Q;(try simp only [A7i,A0T,I2,J8,All.integer_zero.f,All.exact_stepAt.f,All.S24.f0,All.S24.f1,All.rd_T24,All.z24]);exact BR
theorem F3L (k:Nat):B5 Tryz.prog (D8y (A9U k)):=
 B6 B7 HM A9h (es:=fun k=>D0P (A0T k) (I2 k) (J8 k)) (fun k=>fc ⟨D1n k,fc ⟨B5R k,fc ⟨B8g k,fz⟩⟩⟩) Tryz.func201 1 (by kernel_rfl) (fun s=>rfl) (fun k=>C7M (A7i k)) (fc ⟨fun s=>rfl,fz⟩) (fun k s0=> .cons (by kernel_rfl) (by kernel_rfl) (fun s r h=>(E9p (A7i k) (A0T k) (I2 k) (J8 k) s0 s).trans (F3I k s.1.1 s.1.2.1 s.2.1 s.2.2.1 r h)) (.nil)) (F:=fun k s=>A9U k s.1.1 s.1.2.1) (fun k s r h=>(E8Z (A7i k) (A0T k) (I2 k) (J8 k) s).trans (F2z k s.1.1 s.1.2.1 r h)) k
theorem F2Z (k:Nat) (x0:TI) (x1:TI):A0 (A4B k x0 x1) (C9U (j5 k) (A7Q k) (A0T k) (A9U k) x0 x1):=by
 show A0 (All.galoisref02_Add.f k x0.1 x0.2 x1.1 x1.2) _
 unfold All.galoisref02_Add.f;unfold C9U;(try simp only [j5,A7Q,A0T,A9U,All.integer_zero.f,All.exact_stepAt.f,All.S24.f0,All.S24.f1,All.rd_T24,All.z24]);exact BR
theorem E8n (k:Nat):B5 Tryz.prog (D8A (A4B k)):=
 B6 B7 HM B9m (es:=fun k=>D2T (j5 k) (A7Q k) (A0T k) (A9U k)) (fun k=>fc ⟨C1K k,fc ⟨E5a k,fc ⟨D1n k,fc ⟨F3L k,fz⟩⟩⟩⟩) Tryz.func160 0 (by kernel_rfl) (fun s=>rfl) (fun k=>[]) (fz) (fun k s0=> .nil) (F:=fun k s=>A4B k s.1.1 s.1.2.1) (fun k s r h=>(E3A (j5 k) (A7Q k) (A0T k) (A9U k) s).trans (F2Z k s.1.1 s.1.2.1 r h)) k
noncomputable abbrev A5F (k:Nat) (x8:Int) (x5:(List Int)) (x6:(List Int)) (x7:(List Int)):Option q9:=All.galoisref01_Mul.l0 k x5 x6 x7 x8
noncomputable abbrev A4H (k:Nat) (x8:Int) (x9:Int) (x10:Int) (x5:(List Int)) (x6:(List Int)) (x7:(List Int)):Option q9:=All.galoisref01_Mul.l1 k x5 x6 x7 x8 x9 x10
theorem F4n (k:Nat) (x8:Int) (x5:(List Int)) (x6:(List Int)) (x7:(List Int)):A0 (All.galoisref01_Mul.l0 (k+1) x5 x6 x7 x8) (D0q (A4H k) (I2 k) x8 x5 x6 x7):=by rw [All.galoisref01_Mul.l0];unfold D0q;(try simp only [A5F,A4H,I2,J8,All.integer_zero.f,All.exact_stepAt.f,All.S24.f0,All.S24.f1,All.rd_T24,All.z24]);exact BR
theorem E1e (k:Nat) (x8:Int) (x9:Int) (x10:Int) (x5:(List Int)) (x6:(List Int)) (x7:(List Int)):A0 (All.galoisref01_Mul.l1 (k+1) x5 x6 x7 x8 x9 x10) (C7n (A5F k) (A4H k) x8 x9 x10 x5 x6 x7):=by rw [All.galoisref01_Mul.l1];unfold C7n;(try simp only [A5F,A4H,I2,J8,All.integer_zero.f,All.exact_stepAt.f,All.S24.f0,All.S24.f1,All.rd_T24,All.z24]);exact BR
theorem E2x (k:Nat) (x0:ByteArray) (x1:ByteArray):A0 (A8m k x0 x1) (C5z (A5F k) (J8 k) x0 x1):=by
 show A0 (All.galoisref01_Mul.f k x0 x1) _
 unfold All.galoisref01_Mul.f;unfold C5z;(try simp only [A5F,A4H,I2,J8,All.integer_zero.f,All.exact_stepAt.f,All.S24.f0,All.S24.f1,All.rd_T24,All.z24]);exact BR
theorem E0U (k:Nat):B5 Tryz.prog (D2U (A8m k)):=
 B6 B7 HM A6W (es:=fun k=>B6j (I2 k) (J8 k)) (fun k=>fc ⟨B5R k,fc ⟨B8g k,fz⟩⟩) Tryz.func202 2 (by kernel_rfl) (fun s=>rfl) (fun k=>B6a (A5F k) (A4H k)) (fc ⟨fun s=>rfl,fc ⟨fun s=>rfl,fz⟩⟩) (fun k s0=> .cons (by kernel_rfl) (by kernel_rfl) (fun s r h=>(F1g (A5F k) (A4H k) (I2 k) (J8 k) s0 s).trans (F4n k s.1.1 s.2.1 s.2.2.1 s.2.2.2.1 r h)) (.cons (by kernel_rfl) (by kernel_rfl) (fun s r h=>(F0Z (A5F k) (A4H k) (I2 k) (J8 k) s0 s).trans (E1e k s.1.1 s.1.2.1 s.1.2.2.1 s.2.1 s.2.2.1 s.2.2.2.1 r h)) (.nil))) (F:=fun k s=>A8m k s.1.1 s.1.2.1) (fun k s r h=>(E4A (A5F k) (A4H k) (I2 k) (J8 k) s).trans (E2x k s.1.1 s.1.2.1 r h)) k
theorem F0f (k:Nat) (x0:TI) (x1:TI):A0 (Z7 k x0 x1) (D0L (j5 k) (A8m k) x0 x1):=by
 show A0 (All.galoisref02_Mul.f k x0.1 x0.2 x1.1 x1.2) _
 unfold All.galoisref02_Mul.f;unfold D0L;(try simp only [j5,A8m,All.integer_zero.f,All.exact_stepAt.f,All.S24.f0,All.S24.f1,All.rd_T24,All.z24]);exact BR
theorem D7B (k:Nat):B5 Tryz.prog (C5s (Z7 k)):=
 B6 B7 HM C0E (es:=fun k=>D9N (j5 k) (A8m k)) (fun k=>fc ⟨C1K k,fc ⟨E0U k,fz⟩⟩) Tryz.func161 0 (by kernel_rfl) (fun s=>rfl) (fun k=>[]) (fz) (fun k s0=> .nil) (F:=fun k s=>Z7 k s.1.1 s.1.2.1) (fun k s r h=>(E2T (j5 k) (A8m k) s).trans (F0f k s.1.1 s.1.2.1 r h)) k
theorem E0s (k:Nat) (x0:TQ):A0 (b8 k x0) (A4S x0):=A0.refl _
theorem D2k (k:Nat):B5 Tryz.prog (C9T (b8 k)):=
 B6 B7 HM B6l (es:=fun k=>[]) (fun k=>fz) Tryz.func162 0 (by kernel_rfl) (fun s=>rfl) (fun k=>[]) (fz) (fun k s0=> .nil) (F:=fun k s=>b8 k s.1.1) (fun k s r h=>(F3h s).trans (E0s k s.1.1 r h)) k
theorem E0u (k:Nat) (x0:TI) (x1:TI):A0 (o5 k x0 x1) (B5u (Y5 k) (j5 k) (v9 k) x0 x1):=A0.refl _
theorem D8V (k:Nat):B5 Tryz.prog (D0Z (o5 k)):=
 B6 B7 HM B6d (es:=fun k=>D3W (Y5 k) (j5 k) (v9 k)) (fun k=>fc ⟨D2D k,fc ⟨C1K k,fc ⟨D8B k,fz⟩⟩⟩) Tryz.func163 0 (by kernel_rfl) (fun s=>rfl) (fun k=>[]) (fz) (fun k s0=> .nil) (F:=fun k s=>o5 k s.1.1 s.1.2.1) (fun k s r h=>(F4G (Y5 k) (j5 k) (v9 k) s).trans (E0u k s.1.1 s.1.2.1 r h)) k
theorem F3D (k:Nat) (x0:TQ) (x1:TQ):A0 (O6 k x0 x1) (A9s (c9 k) (A4B k) (Z7 k) (b8 k) (o5 k) x0 x1):=A0.refl _
theorem D2x (k:Nat):B5 Tryz.prog (C6G (O6 k)):=
 B6 B7 HM C0U (es:=fun k=>D1Y (c9 k) (A4B k) (Z7 k) (b8 k) (o5 k)) (fun k=>fc ⟨D7I k,fc ⟨E8n k,fc ⟨D7B k,fc ⟨D2k k,fc ⟨D8V k,fz⟩⟩⟩⟩⟩) Tryz.func101 0 (by kernel_rfl) (fun s=>rfl) (fun k=>[]) (fz) (fun k s0=> .nil) (F:=fun k s=>O6 k s.1.1 s.1.2.1) (fun k s r h=>(E8d (c9 k) (A4B k) (Z7 k) (b8 k) (o5 k) s).trans (F3D k s.1.1 s.1.2.1 r h)) k
theorem E3w (k:Nat) (x0:(List TQ)) (x1:Int):A0 (A2w k x0 x1) (B4l (E6 k) x0 x1):=A0.refl _
theorem E9Z (k:Nat):B5 Tryz.prog (D1V (A2w k)):=
 B6 B7 HM C0H (es:=fun k=>D3P (E6 k)) (fun k=>fc ⟨A7C k,fz⟩) Tryz.func102 0 (by kernel_rfl) (fun s=>rfl) (fun k=>[]) (fz) (fun k s0=> .nil) (F:=fun k s=>A2w k s.1.1 s.1.2.1) (fun k s r h=>(F5O (E6 k) s).trans (E3w k s.1.1 s.1.2.1 r h)) k
theorem E2V (k:Nat) (x0:(List TQ)) (x1:(List TQ)) (x6:Int) (x5:(List TQ)):A0 (A0A (k+1) x0 x1 x6 x5) (A7h (A0A k) (F1 k) (O6 k) (A2w k) x0 x1 x6 x5):=by rw [A0A];exact A0.refl _
theorem b20 (k:Nat) (x0:(List TQ)) (x1:(List TQ)):A0 (K9 k x0 x1) (B20 (A0A k) x0 x1):=A0.refl _
theorem B7V (k:Nat):B5 Tryz.prog (B3e (K9 k)):=
 B6 B7 HM D20 (es:=fun k=>D0B (F1 k) (O6 k) (A2w k)) (fun k=>fc ⟨B2U k,fc ⟨D2x k,fc ⟨E9Z k,fz⟩⟩⟩) Tryz.func20 1 (by kernel_rfl) (fun s=>rfl) (fun k=>C2o (A0A k)) (fc ⟨fun s=>rfl,fz⟩) (fun k s0=> .cons (by kernel_rfl) (by kernel_rfl) (fun s r h=>(F0z (A0A k) (F1 k) (O6 k) (A2w k) s0 s).trans (E2V k s.1.1 s.1.2.1 s.1.2.2.1 s.2.1 r h)) (.nil)) (F:=fun k s=>K9 k s.1.1 s.1.2.1) (fun k s r h=>(e20 (A0A k) (F1 k) (O6 k) (A2w k) s).trans (b20 k s.1.1 s.1.2.1 r h)) k
theorem F5w (k:Nat) (x0:(List (List TQ))) (x1:Int):A0 (X6 k x0 x1) (B5P x0 x1):=A0.refl _
theorem D6c (k:Nat):B5 Tryz.prog (D1B (X6 k)):=
 B6 B7 HM C0L (es:=fun k=>[]) (fun k=>fz) Tryz.func103 0 (by kernel_rfl) (fun s=>rfl) (fun k=>[]) (fz) (fun k s0=> .nil) (F:=fun k s=>X6 k s.1.1 s.1.2.1) (fun k s r h=>(E1A s).trans (F5w k s.1.1 s.1.2.1 r h)) k
theorem E0g (k:Nat) (x0:(List (List TQ))) (x3:Int):A0 (A0J (k+1) x0 x3) (A8H (A0J k) x0 x3):=by rw [A0J];exact A0.refl _
theorem E0a (k:Nat) (x0:(List (List TQ))):A0 (N4 k x0) (B3U (A0J k) x0):=A0.refl _
theorem C7I (k:Nat):B5 Tryz.prog (B8v (N4 k)):=
 B6 B7 HM A9u (es:=fun k=>[]) (fun k=>fz) Tryz.func104 1 (by kernel_rfl) (fun s=>rfl) (fun k=>C4P (A0J k)) (fc ⟨fun s=>rfl,fz⟩) (fun k s0=> .cons (by kernel_rfl) (by kernel_rfl) (fun s r h=>(E1a (A0J k) s0 s).trans (E0g k s.1.1 s.1.2.1 r h)) (.nil)) (F:=fun k s=>N4 k s.1.1) (fun k s r h=>(E6J (A0J k) s).trans (E0a k s.1.1 r h)) k
theorem E9v (k:Nat) (x0:(List (List TQ))) (x1:(List (List TQ))) (x6:Int) (x5:(List (List TQ))):A0 (A0F (k+1) x0 x1 x6 x5) (A9N (A0F k) (K9 k) (X6 k) (N4 k) x0 x1 x6 x5):=by rw [A0F];exact A0.refl _
theorem b23 (k:Nat) (x0:(List (List TQ))) (x1:(List (List TQ))):A0 (A4z k x0 x1) (B23 (A0F k) x0 x1):=A0.refl _
theorem F5A (k:Nat):B5 Tryz.prog (D5C (A4z k)):=
 B6 B7 HM D23 (es:=fun k=>C7d (K9 k) (X6 k) (N4 k)) (fun k=>fc ⟨B7V k,fc ⟨D6c k,fc ⟨C7I k,fz⟩⟩⟩) Tryz.func23 1 (by kernel_rfl) (fun s=>rfl) (fun k=>C9e (A0F k)) (fc ⟨fun s=>rfl,fz⟩) (fun k s0=> .cons (by kernel_rfl) (by kernel_rfl) (fun s r h=>(E6c (A0F k) (K9 k) (X6 k) (N4 k) s0 s).trans (E9v k s.1.1 s.1.2.1 s.1.2.2.1 s.2.1 r h)) (.nil)) (F:=fun k s=>A4z k s.1.1 s.1.2.1) (fun k s r h=>(e23 (A0F k) (K9 k) (X6 k) (N4 k) s).trans (b23 k s.1.1 s.1.2.1 r h)) k
theorem b65 (k:Nat) (x0:(List (List TQ))) (x1:(List (List TQ))):A0 (A3X k x0 x1) (B65 (A4z k) x0 x1):=A0.refl _
theorem F5h (k:Nat):B5 Tryz.prog (D7r (A3X k)):=
 B6 B7 HM D65 (es:=fun k=>D5z (A4z k)) (fun k=>fc ⟨F5A k,fz⟩) Tryz.func65 0 (by kernel_rfl) (fun s=>rfl) (fun k=>[]) (fz) (fun k s0=> .nil) (F:=fun k s=>A3X k s.1.1 s.1.2.1) (fun k s r h=>(e65 (A4z k) s).trans (b65 k s.1.1 s.1.2.1 r h)) k
theorem E2A (k:Nat) (x0:(List (List TQ))) (x1:Int) (x2:Int) (x3:((List (List TQ))×(List (List TQ))×Unit)):A0 (A3P k x0 x1 x2 x3) (A8D (N5 k) (Q7 k) (A3X k) x0 x1 x2 x3):=A0.refl _
theorem F1J (k:Nat):B5 Tryz.prog (D1z (A3P k)):=
 B6 B7 HM B6s (es:=fun k=>D6r (N5 k) (Q7 k) (A3X k)) (fun k=>fc ⟨B9Z k,fc ⟨C5q k,fc ⟨F5h k,fz⟩⟩⟩) Tryz.func38 0 (by kernel_rfl) (fun s=>rfl) (fun k=>[]) (fz) (fun k s0=> .nil) (F:=fun k s=>A3P k s.1.1 s.1.2.1 s.1.2.2.1 s.1.2.2.2.1) (fun k s r h=>(E7v (N5 k) (Q7 k) (A3X k) s).trans (E2A k s.1.1 s.1.2.1 s.1.2.2.1 s.1.2.2.2.1 r h)) k
theorem E0X (k:Nat) (x0:TQ) (x1:TQ):A0 (M0 k x0 x1) (A9z (c9 k) (Z7 k) (b8 k) (o5 k) x0 x1):=A0.refl _
theorem C6r (k:Nat):B5 Tryz.prog (C0Z (M0 k)):=
 B6 B7 HM B8w (es:=fun k=>D4d (c9 k) (Z7 k) (b8 k) (o5 k)) (fun k=>fc ⟨D7I k,fc ⟨D7B k,fc ⟨D2k k,fc ⟨D8V k,fz⟩⟩⟩⟩) Tryz.func118 0 (by kernel_rfl) (fun s=>rfl) (fun k=>[]) (fz) (fun k s0=> .nil) (F:=fun k s=>M0 k s.1.1 s.1.2.1) (fun k s r h=>(E6w (c9 k) (Z7 k) (b8 k) (o5 k) s).trans (E0X k s.1.1 s.1.2.1 r h)) k
theorem F0C (k:Nat) (x8:(List TQ)) (x9:Int) (x10:Int) (x3:TQ) (x5:(List TQ)):A0 (A0Q (k+1) x8 x9 x10 x3 x5) (A7v (A0Q k) (F1 k) (M0 k) x8 x9 x10 x3 x5):=by rw [A0Q];exact A0.refl _
theorem b98 (k:Nat) (x0:(List TQ)) (x1:TQ):A0 (A4y k x0 x1) (B98 (A0Q k) x0 x1):=A0.refl _
theorem E0n (k:Nat):B5 Tryz.prog (D7S (A4y k)):=
 B6 B7 HM D98 (es:=fun k=>C5e (F1 k) (M0 k)) (fun k=>fc ⟨B2U k,fc ⟨C6r k,fz⟩⟩) Tryz.func98 1 (by kernel_rfl) (fun s=>rfl) (fun k=>C9u (A0Q k)) (fc ⟨fun s=>rfl,fz⟩) (fun k s0=> .cons (by kernel_rfl) (by kernel_rfl) (fun s r h=>(E7G (A0Q k) (F1 k) (M0 k) s0 s).trans (F0C k s.1.1 s.1.2.1 s.1.2.2.1 s.2.1 s.2.2.1 r h)) (.nil)) (F:=fun k s=>A4y k s.1.1 s.1.2.1) (fun k s r h=>(e98 (A0Q k) (F1 k) (M0 k) s).trans (b98 k s.1.1 s.1.2.1 r h)) k
theorem b51 (k:Nat) (x0:(List TQ)) (x1:(List TQ)):A0 (Y8 k x0 x1) (B51 (K9 k) (E6 k) (A4y k) x0 x1):=A0.refl _
theorem D3x (k:Nat):B5 Tryz.prog (C7R (Y8 k)):=
 B6 B7 HM D51 (es:=fun k=>D1v (K9 k) (E6 k) (A4y k)) (fun k=>fc ⟨B7V k,fc ⟨A7C k,fc ⟨E0n k,fz⟩⟩⟩) Tryz.func51 0 (by kernel_rfl) (fun s=>rfl) (fun k=>[]) (fz) (fun k s0=> .nil) (F:=fun k s=>Y8 k s.1.1 s.1.2.1) (fun k s r h=>(e51 (K9 k) (E6 k) (A4y k) s).trans (b51 k s.1.1 s.1.2.1 r h)) k
theorem E0h (k:Nat) (x0:(List (List TQ))) (x1:(List (List TQ))) (x6:Int) (x5:(List (List TQ))):A0 (A0u (k+1) x0 x1 x6 x5) (A8W (A0u k) (Y8 k) (X6 k) (N4 k) x0 x1 x6 x5):=by rw [A0u];exact A0.refl _
theorem b67 (k:Nat) (x0:(List (List TQ))) (x1:(List (List TQ))):A0 (A5O k x0 x1) (B67 (A0u k) x0 x1):=A0.refl _
theorem F6q (k:Nat):B5 Tryz.prog (D1I (A5O k)):=
 B6 B7 HM D67 (es:=fun k=>C1N (Y8 k) (X6 k) (N4 k)) (fun k=>fc ⟨D3x k,fc ⟨D6c k,fc ⟨C7I k,fz⟩⟩⟩) Tryz.func67 1 (by kernel_rfl) (fun s=>rfl) (fun k=>C4i (A0u k)) (fc ⟨fun s=>rfl,fz⟩) (fun k s0=> .cons (by kernel_rfl) (by kernel_rfl) (fun s r h=>(E0J (A0u k) (Y8 k) (X6 k) (N4 k) s0 s).trans (E0h k s.1.1 s.1.2.1 s.1.2.2.1 s.2.1 r h)) (.nil)) (F:=fun k s=>A5O k s.1.1 s.1.2.1) (fun k s r h=>(e67 (A0u k) (Y8 k) (X6 k) (N4 k) s).trans (b67 k s.1.1 s.1.2.1 r h)) k
theorem b66 (k:Nat) (x0:(List (List TQ))) (x1:(List (List TQ))):A0 (A3U k x0 x1) (B66 (A5O k) x0 x1):=A0.refl _
theorem E7R (k:Nat):B5 Tryz.prog (D2b (A3U k)):=
 B6 B7 HM D66 (es:=fun k=>D1f (A5O k)) (fun k=>fc ⟨F6q k,fz⟩) Tryz.func66 0 (by kernel_rfl) (fun s=>rfl) (fun k=>[]) (fz) (fun k s0=> .nil) (F:=fun k s=>A3U k s.1.1 s.1.2.1) (fun k s r h=>(e66 (A5O k) s).trans (b66 k s.1.1 s.1.2.1 r h)) k
theorem F2w (k:Nat) (x0:(List (List TQ))) (x1:Int) (x2:Int) (x3:((List (List TQ))×(List (List TQ))×Unit)):A0 (A3d k x0 x1 x2 x3) (A7f (N5 k) (Q7 k) (A3U k) x0 x1 x2 x3):=A0.refl _
theorem F7i (k:Nat):B5 Tryz.prog (D1J (A3d k)):=
 B6 B7 HM B7g (es:=fun k=>D5b (N5 k) (Q7 k) (A3U k)) (fun k=>fc ⟨B9Z k,fc ⟨C5q k,fc ⟨E7R k,fz⟩⟩⟩) Tryz.func38 0 (by kernel_rfl) (fun s=>rfl) (fun k=>[]) (fz) (fun k s0=> .nil) (F:=fun k s=>A3d k s.1.1 s.1.2.1 s.1.2.2.1 s.1.2.2.2.1) (fun k s r h=>(E8p (N5 k) (Q7 k) (A3U k) s).trans (F2w k s.1.1 s.1.2.1 s.1.2.2.1 s.1.2.2.2.1 r h)) k
theorem E0b (k:Nat) (x0:(List TQ)) (x1:(List TQ)) (x6:Int) (x5:(List TQ)):A0 (t8 (k+1) x0 x1 x6 x5) (A8P (s7 k) (F1 k) (E6 k) x0 x1 x6 x5):=by rw [t8];exact A0.refl _
theorem E2j (k:Nat) (x0:(List TQ)) (x1:(List TQ)) (x6:Int) (x21:Int) (x22:Int) (x5:(List TQ)) (x7:TQ):A0 (s7 (k+1) x0 x1 x6 x21 x22 x5 x7) (A7a (t8 k) (s7 k) (O6 k) (M0 k) x0 x1 x6 x21 x22 x5 x7):=by rw [s7];exact A0.refl _
theorem b45 (k:Nat) (x0:(List TQ)) (x1:(List TQ)):A0 (W8 k x0 x1) (B45 (t8 k) x0 x1):=A0.refl _
theorem D6n (k:Nat):B5 Tryz.prog (C7c (W8 k)):=
 B6 B7 HM D45 (es:=fun k=>B6U (F1 k) (E6 k) (O6 k) (M0 k)) (fun k=>fc ⟨B2U k,fc ⟨A7C k,fc ⟨D2x k,fc ⟨C6r k,fz⟩⟩⟩⟩) Tryz.func45 2 (by kernel_rfl) (fun s=>rfl) (fun k=>B7H (t8 k) (s7 k)) (fc ⟨fun s=>rfl,fc ⟨fun s=>rfl,fz⟩⟩) (fun k s0=> .cons (by kernel_rfl) (by kernel_rfl) (fun s r h=>(E5M (t8 k) (s7 k) (F1 k) (E6 k) (O6 k) (M0 k) s0 s).trans (E0b k s.1.1 s.1.2.1 s.1.2.2.1 s.2.1 r h)) (.cons (by kernel_rfl) (by kernel_rfl) (fun s r h=>(F1c (t8 k) (s7 k) (F1 k) (E6 k) (O6 k) (M0 k) s0 s).trans (E2j k s.1.1 s.1.2.1 s.1.2.2.1 s.1.2.2.2.1 s.1.2.2.2.2.1 s.2.1 s.2.2.1 r h)) (.nil))) (F:=fun k s=>W8 k s.1.1 s.1.2.1) (fun k s r h=>(e45 (t8 k) (s7 k) (F1 k) (E6 k) (O6 k) (M0 k) s).trans (b45 k s.1.1 s.1.2.1 r h)) k
theorem E9R (k:Nat) (x1:Int) (x6:Int) (x2:TQ) (x5:(List TQ)):A0 (A1A (k+1) x1 x6 x2 x5) (A7c (A1A k) (F1 k) (E6 k) x1 x6 x2 x5):=by rw [A1A];exact A0.refl _
theorem b21 (k:Nat) (x0:TQ) (x1:Int):A0 (A2k k x0 x1) (B21 (A1A k) x0 x1):=A0.refl _
theorem F2X (k:Nat):B5 Tryz.prog (D5Q (A2k k)):=
 B6 B7 HM D21 (es:=fun k=>C1V (F1 k) (E6 k)) (fun k=>fc ⟨B2U k,fc ⟨A7C k,fz⟩⟩) Tryz.func21 1 (by kernel_rfl) (fun s=>rfl) (fun k=>C2D (A1A k)) (fc ⟨fun s=>rfl,fz⟩) (fun k s0=> .cons (by kernel_rfl) (by kernel_rfl) (fun s r h=>(E1x (A1A k) (F1 k) (E6 k) s0 s).trans (E9R k s.1.1 s.1.2.1 s.2.1 s.2.2.1 r h)) (.nil)) (F:=fun k s=>A2k k s.1.1 s.1.2.1) (fun k s r h=>(e21 (A1A k) (F1 k) (E6 k) s).trans (b21 k s.1.1 s.1.2.1 r h)) k
theorem E7S (k:Nat) (x0:TQ):A0 (A3S k x0) (B9M x0):=A0.refl _
theorem E6a (k:Nat):B5 Tryz.prog (D1r (A3S k)):=
 B6 B7 HM B9N (es:=fun k=>[]) (fun k=>fz) Tryz.func157 0 (by kernel_rfl) (fun s=>rfl) (fun k=>[]) (fz) (fun k s0=> .nil) (F:=fun k s=>A3S k s.1.1) (fun k s r h=>(E4G s).trans (E7S k s.1.1 r h)) k
theorem b99 (k:Nat) (x0:TQ) (x1:TQ):A0 (t7 k x0 x1) (B99 (M0 k) (A3S k) x0 x1):=A0.refl _
theorem E6U (k:Nat):B5 Tryz.prog (D1Z (t7 k)):=
 B6 B7 HM D99 (es:=fun k=>D4D (M0 k) (A3S k)) (fun k=>fc ⟨C6r k,fc ⟨E6a k,fz⟩⟩) Tryz.func99 0 (by kernel_rfl) (fun s=>rfl) (fun k=>[]) (fz) (fun k s0=> .nil) (F:=fun k s=>t7 k s.1.1 s.1.2.1) (fun k s r h=>(e99 (M0 k) (A3S k) s).trans (b99 k s.1.1 s.1.2.1 r h)) k
theorem E4m (k:Nat) (x1:(List TQ)) (x6:(List TQ)) (x7:(List TQ)):A0 (n8 (k+1) x1 x6 x7) (A9D (n8 k) (K9 k) (A2k k) (W8 k) (Y8 k) (Z0 k) (t7 k) x1 x6 x7):=by rw [n8];exact A0.refl _
theorem D9t (k:Nat) (x0:(List TQ)) (x1:(List TQ)):A0 (A4j k x0 x1) (B4B (n8 k) (F1 k) x0 x1):=A0.refl _
theorem E8L (k:Nat):B5 Tryz.prog (D7b (A4j k)):=
 B6 B7 HM B0q (es:=fun k=>C8P (K9 k) (A2k k) (W8 k) (F1 k) (Y8 k) (Z0 k) (t7 k)) (fun k=>fc ⟨B7V k,fc ⟨F2X k,fc ⟨D6n k,fc ⟨B2U k,fc ⟨D3x k,fc ⟨D1l k,fc ⟨E6U k,fz⟩⟩⟩⟩⟩⟩⟩) Tryz.func210 1 (by kernel_rfl) (fun s=>rfl) (fun k=>C6c (n8 k)) (fc ⟨fun s=>rfl,fz⟩) (fun k s0=> .cons (by kernel_rfl) (by kernel_rfl) (fun s r h=>(F3e (n8 k) (K9 k) (A2k k) (W8 k) (F1 k) (Y8 k) (Z0 k) (t7 k) s0 s).trans (E4m k s.1.1 s.1.2.1 s.1.2.2.1 r h)) (.nil)) (F:=fun k s=>A4j k s.1.1 s.1.2.1) (fun k s r h=>(E9g (n8 k) (K9 k) (A2k k) (W8 k) (F1 k) (Y8 k) (Z0 k) (t7 k) s).trans (D9t k s.1.1 s.1.2.1 r h)) k
theorem E4D (k:Nat) (x0:(List TQ)) (x1:(List TQ)):A0 (A4q k x0 x1) (B4d (A4j k) x0 x1):=A0.refl _
theorem E1r (k:Nat):B5 Tryz.prog (D6K (A4q k)):=
 B6 B7 HM B9o (es:=fun k=>D5f (A4j k)) (fun k=>fc ⟨E8L k,fz⟩) Tryz.func167 0 (by kernel_rfl) (fun s=>rfl) (fun k=>[]) (fz) (fun k s0=> .nil) (F:=fun k s=>A4q k s.1.1 s.1.2.1) (fun k s r h=>(F2W (A4j k) s).trans (E4D k s.1.1 s.1.2.1 r h)) k
theorem E8E (k:Nat) (x0:(List TQ)) (x1:(List TQ)):A0 (A0m k x0 x1) (B5f (A4q k) x0 x1):=A0.refl _
theorem F6c (k:Nat):B5 Tryz.prog (D3s (A0m k)):=
 B6 B7 HM B7n (es:=fun k=>D5v (A4q k)) (fun k=>fc ⟨E1r k,fz⟩) Tryz.func109 0 (by kernel_rfl) (fun s=>rfl) (fun k=>[]) (fz) (fun k s0=> .nil) (F:=fun k s=>A0m k s.1.1 s.1.2.1) (fun k s r h=>(F0J (A4q k) s).trans (E8E k s.1.1 s.1.2.1 r h)) k
theorem F0x (k:Nat) (x1:(List (List TQ))) (x2:(List (List TQ))) (x8:Int) (x3:(List TQ)) (x7:(List (List TQ))):A0 (w8 (k+1) x1 x2 x8 x3 x7) (A9B (p9 k) (N4 k) x1 x2 x8 x3 x7):=by rw [w8];exact A0.refl _
theorem F0m (k:Nat) (x1:(List (List TQ))) (x2:(List (List TQ))) (x8:Int) (x9:(List TQ)) (x22:Int) (x23:Int) (x3:(List TQ)) (x7:(List (List TQ))):A0 (p9 (k+1) x1 x2 x8 x9 x22 x23 x3 x7) (A9E (w8 k) (p9 k) (K9 k) (W8 k) (A0m k) x1 x2 x8 x9 x22 x23 x3 x7):=by rw [p9];exact A0.refl _
theorem b30 (k:Nat) (x0:(List TQ)) (x1:(List (List TQ))) (x2:(List (List TQ))):A0 (A5A k x0 x1 x2) (B30 (w8 k) x0 x1 x2):=A0.refl _
theorem F6W (k:Nat):B5 Tryz.prog (D9S (A5A k)):=
 B6 B7 HM D30 (es:=fun k=>C0S (K9 k) (W8 k) (N4 k) (A0m k)) (fun k=>fc ⟨B7V k,fc ⟨D6n k,fc ⟨C7I k,fc ⟨F6c k,fz⟩⟩⟩⟩) Tryz.func30 2 (by kernel_rfl) (fun s=>rfl) (fun k=>B7M (w8 k) (p9 k)) (fc ⟨fun s=>rfl,fc ⟨fun s=>rfl,fz⟩⟩) (fun k s0=> .cons (by kernel_rfl) (by kernel_rfl) (fun s r h=>(E4b (w8 k) (p9 k) (K9 k) (W8 k) (N4 k) (A0m k) s0 s).trans (F0x k s.1.1 s.1.2.1 s.1.2.2.1 s.2.1 s.2.2.1 r h)) (.cons (by kernel_rfl) (by kernel_rfl) (fun s r h=>(F7H (w8 k) (p9 k) (K9 k) (W8 k) (N4 k) (A0m k) s0 s).trans (F0m k s.1.1 s.1.2.1 s.1.2.2.1 s.1.2.2.2.1 s.1.2.2.2.2.1 s.1.2.2.2.2.2.1 s.2.1 s.2.2.1 r h)) (.nil))) (F:=fun k s=>A5A k s.1.1 s.1.2.1 s.1.2.2.1) (fun k s r h=>(e30 (w8 k) (p9 k) (K9 k) (W8 k) (N4 k) (A0m k) s).trans (b30 k s.1.1 s.1.2.1 s.1.2.2.1 r h)) k
theorem b68 (k:Nat) (x0:(List TQ)) (x1:(List (List TQ))) (x2:(List (List TQ))):A0 (A3h k x0 x1 x2) (B68 (A5A k) x0 x1 x2):=A0.refl _
theorem F6T (k:Nat):B5 Tryz.prog (D4t (A3h k)):=
 B6 B7 HM D68 (es:=fun k=>D8d (A5A k)) (fun k=>fc ⟨F6W k,fz⟩) Tryz.func68 0 (by kernel_rfl) (fun s=>rfl) (fun k=>[]) (fz) (fun k s0=> .nil) (F:=fun k s=>A3h k s.1.1 s.1.2.1 s.1.2.2.1) (fun k s r h=>(e68 (A5A k) s).trans (b68 k s.1.1 s.1.2.1 s.1.2.2.1 r h)) k
theorem F6D (k:Nat) (x0:(List (List TQ))) (x1:Int) (x2:Int) (x3:((List TQ)×(List (List TQ))×(List (List TQ))×Unit)):A0 (A3g k x0 x1 x2 x3) (A8a (N5 k) (Q7 k) (A3h k) x0 x1 x2 x3):=A0.refl _
theorem E2D (k:Nat):B5 Tryz.prog (D4V (A3g k)):=
 B6 B7 HM B6R (es:=fun k=>D4z (N5 k) (Q7 k) (A3h k)) (fun k=>fc ⟨B9Z k,fc ⟨C5q k,fc ⟨F6T k,fz⟩⟩⟩) Tryz.func38 0 (by kernel_rfl) (fun s=>rfl) (fun k=>[]) (fz) (fun k s0=> .nil) (F:=fun k s=>A3g k s.1.1 s.1.2.1 s.1.2.2.1 s.1.2.2.2.1) (fun k s r h=>(E9n (N5 k) (Q7 k) (A3h k) s).trans (F6D k s.1.1 s.1.2.1 s.1.2.2.1 s.1.2.2.2.1 r h)) k
theorem F2t (k:Nat) (x0:(List TQ)) (x1:(List (List TQ))) (x2:(List (List TQ))):A0 (A4r k x0 x1 x2) (C4T (v3 k) x0 x1 x2):=A0.refl _
theorem E2g (k:Nat):B5 Tryz.prog (D1p (A4r k)):=
 B6 B7 HM B7c (es:=fun k=>D1s (v3 k)) (fun k=>fc ⟨D5k k,fz⟩) Tryz.func129 0 (by kernel_rfl) (fun s=>rfl) (fun k=>[]) (fz) (fun k s0=> .nil) (F:=fun k s=>A4r k s.1.1 s.1.2.1 s.1.2.2.1) (fun k s r h=>(E0k (v3 k) s).trans (F2t k s.1.1 s.1.2.1 s.1.2.2.1 r h)) k
theorem F6e (k:Nat) (x0:((List TQ)×(List (List TQ))×(List (List TQ))×Unit)):A0 (A4C k x0) (B4T (K4 k) (A4r k) x0):=A0.refl _
theorem F4h (k:Nat):B5 Tryz.prog (D8q (A4C k)):=
 B6 B7 HM B7z (es:=fun k=>D1F (K4 k) (A4r k)) (fun k=>fc ⟨B0g k,fc ⟨E2g k,fz⟩⟩) Tryz.func111 0 (by kernel_rfl) (fun s=>rfl) (fun k=>[]) (fz) (fun k s0=> .nil) (F:=fun k s=>A4C k s.1.1) (fun k s r h=>(F2H (K4 k) (A4r k) s).trans (F6e k s.1.1 r h)) k
theorem b53 (k:Nat) (x0:(List TQ)) (x1:(List (List TQ))) (x2:(List (List TQ))):A0 (A3J k x0 x1 x2) (B53 (F8 k) (A4C k) x0 x1 x2):=A0.refl _
theorem E5H (k:Nat):B5 Tryz.prog (D8u (A3J k)):=
 B6 B7 HM D53 (es:=fun k=>D3A (F8 k) (A4C k)) (fun k=>fc ⟨A8x k,fc ⟨F4h k,fz⟩⟩) Tryz.func53 0 (by kernel_rfl) (fun s=>rfl) (fun k=>[]) (fz) (fun k s0=> .nil) (F:=fun k s=>A3J k s.1.1 s.1.2.1 s.1.2.2.1) (fun k s r h=>(e53 (F8 k) (A4C k) s).trans (b53 k s.1.1 s.1.2.1 s.1.2.2.1 r h)) k
theorem F0R (k:Nat) (x0:(List (List TQ))) (x1:(List (List TQ))):A0 (A5T k x0 x1) (C4E (v6 k) x0 x1):=A0.refl _
theorem E4Y (k:Nat):B5 Tryz.prog (D2p (A5T k)):=
 B6 B7 HM B6O (es:=fun k=>D3N (v6 k)) (fun k=>fc ⟨D4M k,fz⟩) Tryz.func132 0 (by kernel_rfl) (fun s=>rfl) (fun k=>[]) (fz) (fun k s0=> .nil) (F:=fun k s=>A5T k s.1.1 s.1.2.1) (fun k s r h=>(F5n (v6 k) s).trans (F0R k s.1.1 s.1.2.1 r h)) k
theorem E3P (k:Nat) (x0:((List (List TQ))×(List (List TQ))×Unit)):A0 (A3o k x0) (B4F (K4 k) (A5T k) x0):=A0.refl _
theorem F6m (k:Nat):B5 Tryz.prog (D6U (A3o k)):=
 B6 B7 HM B9l (es:=fun k=>D5A (K4 k) (A5T k)) (fun k=>fc ⟨B0g k,fc ⟨E4Y k,fz⟩⟩) Tryz.func111 0 (by kernel_rfl) (fun s=>rfl) (fun k=>[]) (fz) (fun k s0=> .nil) (F:=fun k s=>A3o k s.1.1) (fun k s r h=>(E6R (K4 k) (A5T k) s).trans (E3P k s.1.1 r h)) k
theorem b63 (k:Nat) (x0:(List TQ)) (x1:(List (List TQ))) (x2:(List (List TQ))):A0 (A3B k x0 x1 x2) (B63 (F8 k) (A3o k) x0 x1 x2):=A0.refl _
theorem E0O (k:Nat):B5 Tryz.prog (D6X (A3B k)):=
 B6 B7 HM D63 (es:=fun k=>D6x (F8 k) (A3o k)) (fun k=>fc ⟨A8x k,fc ⟨F6m k,fz⟩⟩) Tryz.func63 0 (by kernel_rfl) (fun s=>rfl) (fun k=>[]) (fz) (fun k s0=> .nil) (F:=fun k s=>A3B k s.1.1 s.1.2.1 s.1.2.2.1) (fun k s r h=>(e63 (F8 k) (A3o k) s).trans (b63 k s.1.1 s.1.2.1 s.1.2.2.1 r h)) k
theorem E8N (k:Nat) (x0:(List (List TQ))) (x1:(List (List TQ))) (x14:Int) (x15:Int) (x5:(List (List TQ))):A0 (A0P (k+1) x0 x1 x14 x15 x5) (A7R (A0P k) (E7 k) (S0 k) (X4 k) x0 x1 x14 x15 x5):=by rw [A0P];exact A0.refl _
theorem F5q (k:Nat) (x0:(List (List TQ))) (x1:(List (List TQ))):A0 (A5P k x0 x1) (B2z (A0P k) x0 x1):=A0.refl _
theorem F7t (k:Nat):B5 Tryz.prog (D3u (A5P k)):=
 B6 B7 HM B2s (es:=fun k=>C5Y (E7 k) (S0 k) (X4 k)) (fun k=>fc ⟨A9w k,fc ⟨C8a k,fc ⟨D5l k,fz⟩⟩⟩) Tryz.func134 1 (by kernel_rfl) (fun s=>rfl) (fun k=>C4v (A0P k)) (fc ⟨fun s=>rfl,fz⟩) (fun k s0=> .cons (by kernel_rfl) (by kernel_rfl) (fun s r h=>(F3n (A0P k) (E7 k) (S0 k) (X4 k) s0 s).trans (E8N k s.1.1 s.1.2.1 s.1.2.2.1 s.1.2.2.2.1 s.2.1 r h)) (.nil)) (F:=fun k s=>A5P k s.1.1 s.1.2.1) (fun k s r h=>(E5x (A0P k) (E7 k) (S0 k) (X4 k) s).trans (F5q k s.1.1 s.1.2.1 r h)) k
theorem E6g (k:Nat) (x0:(List (List TQ))) (x1:(List (List TQ))):A0 (A5D k x0 x1) (C4o (A5P k) x0 x1):=A0.refl _
theorem E4T (k:Nat):B5 Tryz.prog (D4m (A5D k)):=
 B6 B7 HM B7m (es:=fun k=>D7M (A5P k)) (fun k=>fc ⟨F7t k,fz⟩) Tryz.func133 0 (by kernel_rfl) (fun s=>rfl) (fun k=>[]) (fz) (fun k s0=> .nil) (F:=fun k s=>A5D k s.1.1 s.1.2.1) (fun k s r h=>(E5N (A5P k) s).trans (E6g k s.1.1 s.1.2.1 r h)) k
theorem F3Q (k:Nat) (x0:((List (List TQ))×(List (List TQ))×Unit)):A0 (A3Z k x0) (B3i (K4 k) (A5D k) x0):=A0.refl _
theorem F7U (k:Nat):B5 Tryz.prog (D4r (A3Z k)):=
 B6 B7 HM B6K (es:=fun k=>D5U (K4 k) (A5D k)) (fun k=>fc ⟨B0g k,fc ⟨E4T k,fz⟩⟩) Tryz.func111 0 (by kernel_rfl) (fun s=>rfl) (fun k=>[]) (fz) (fun k s0=> .nil) (F:=fun k s=>A3Z k s.1.1) (fun k s r h=>(E6S (K4 k) (A5D k) s).trans (F3Q k s.1.1 r h)) k
theorem b64 (k:Nat) (x0:(List TQ)) (x1:(List (List TQ))) (x2:(List (List TQ))):A0 (A3c k x0 x1 x2) (A6 (F8 k) (A3Z k) x0 x1 x2):=A0.refl _
theorem E2K (k:Nat):B5 Tryz.prog (D6i (A3c k)):=
 B6 B7 HM D64 (es:=fun k=>D4o (F8 k) (A3Z k)) (fun k=>fc ⟨A8x k,fc ⟨F7U k,fz⟩⟩) Tryz.func64 0 (by kernel_rfl) (fun s=>rfl) (fun k=>[]) (fz) (fun k s0=> .nil) (F:=fun k s=>A3c k s.1.1 s.1.2.1 s.1.2.2.1) (fun k s r h=>(e64 (F8 k) (A3Z k) s).trans (b64 k s.1.1 s.1.2.1 s.1.2.2.1 r h)) k
noncomputable abbrev B1K (k:Nat) (x0:(List TQ)) (x1:(List (List TQ))) (x2:(List (List TQ))):Option R10:=B10 (A4I k) (S1 k) (A3T k) (A5I k) (A3P k) (A3d k) (A3g k) (A3J k) (A3B k) (A3c k) x0 x1 x2
theorem b10 (k:Nat) (x0:(List TQ)) (x1:(List (List TQ))) (x2:(List (List TQ))):A0 (B1K k x0 x1 x2) (B10 (A4I k) (S1 k) (A3T k) (A5I k) (A3P k) (A3d k) (A3g k) (A3J k) (A3B k) (A3c k) x0 x1 x2):=A0.refl _
theorem E9y (k:Nat):B5 Tryz.prog (E3k (B1K k)):=
 B6 B7 HM D10 (es:=fun k=>D9T (A4I k) (S1 k) (A3T k) (A5I k) (A3P k) (A3d k) (A3g k) (A3J k) (A3B k) (A3c k)) (fun k=>fc ⟨E2R k,fc ⟨C3R k,fc ⟨E6A k,fc ⟨E3O k,fc ⟨F1J k,fc ⟨F7i k,fc ⟨E2D k,fc ⟨E5H k,fc ⟨E0O k,fc ⟨E2K k,List.forall_mem_nil _⟩⟩⟩⟩⟩⟩⟩⟩⟩⟩) Tryz.func10 0 (by kernel_rfl) (fun s=>rfl) (fun k=>[]) (List.forall_mem_nil _) (fun k s0=> .nil) (F:=fun k s=>B1K k s.1.1 s.1.2.1 s.1.2.2.1) (fun k s r h=>(e10 (A4I k) (S1 k) (A3T k) (A5I k) (A3P k) (A3d k) (A3g k) (A3J k) (A3B k) (A3c k) s).trans (b10 k s.1.1 s.1.2.1 s.1.2.2.1 r h)) k
theorem calls10 (a:(List TQ)) (b:(List (List TQ))) (c:(List (List TQ))) (h:∃k,B1K k a b c=some true) (w:World) {va vb vc:Value} (ra:At0 w (.ag (.li (.ag (.pr (.ag (.pr .bo .st)) .st)))) a va) (rb:At0 w (.li (.li (.ag (.pr (.ag (.pr .bo .st)) .st)))) b vb) (rc:At0 w (.li (.li (.ag (.pr (.ag (.pr .bo .st)) .st)))) c vc):
  Calls Tryz.prog 10 #[va,vb,vc] w fun e w'=>e= .returned (.bool true)∧Below w.heap.size w w':=by
 obtain⟨k,hk⟩:=h
 have hc:=E9y k ((a,(b,(c,()))),()) true hk (.a (.v .bo true)) rfl
 exact E1H (vs:=[va,vb,vc]) Tryz.func10 (by kernel_rfl) (c:=D10.cd) (by kernel_rfl) hc (.cons ra (.cons rb (.cons rc (.nil)))) (fun w bl φ v h=>F1D h)
end Go.Proofs.YtijohnkgomcdbaaGreatV
set_option maxRecDepth 100000
namespace Go.Proofs.YtijohnkgomcdbaaGreatV
open Go Go.RowKit YtijohnkgomcdbaaGreat YtijohnkgomcdbaaGreatE YtijohnkgomcdbaaGreatN YtijohnkgomcdbaaGreat.All YtijohnkgomcdbaaGreatW.PrintWords YtijohnkgomcdbaaGreatW.PrintLast YtijohnkgomcdbaaGreatW.PrintMore
section
variable {m:FP} {f g:List FP} (h:fst m [f,g]≠0)
include h
theorem F3J:Ev (fun k=>A3B k m f g) (([]:List FP),fst m [f,g]):=by
 show Ev (fun k=>B63 (F8 k) (A3o k) _ _ _) _
 unfold B63
 exact Ev.bind (B6V m (l:=[f,g]) (by simp)) (C1 h (Ev.now _))
theorem F7D:Ev (fun k=>A3c k m f g) (([]:List FP),fst m [f,g]):=by
 show Ev (fun k=>A6 (F8 k) (A3Z k) _ _ _) _
 unfold A6
 exact Ev.bind (B6V m (l:=[f,g]) (by simp)) (C1 h (Ev.now _))
theorem E4r:Ev (fun k=>A3J k m f g) (([]:List FP),fst m [f,g]):=by
 show Ev (fun k=>B53 (F8 k) (A4C k) _ _ _) _
 unfold B53
 exact Ev.bind (B6V m (l:=[f,g]) (by simp)) (C1 h (Ev.now _))
end
theorem E8O {e:Int} {f g:List FP} (h:e≠0):Ev (fun k=>A3P k [] e e (f,g,())) true:=by
 show Ev (fun k=>A8D (N5 k) (Q7 k) (A3X k) _ _ _ _) _
 unfold A8D
 exact C8Z h rfl
theorem F0I {e:Int} {f g:List FP} (h:e≠0):Ev (fun k=>A3d k [] e e (f,g,())) true:=by
 show Ev (fun k=>A7f (N5 k) (Q7 k) (A3U k) _ _ _ _) _
 unfold A7f
 exact C8Z h rfl
theorem E4s {e:Int} {m:FP} {f g:List FP} (h:e≠0):Ev (fun k=>A3g k [] e e (m,f,g,())) true:=by
 show Ev (fun k=>A8a (N5 k) (Q7 k) (A3h k) _ _ _ _) _
 unfold A8a
 exact C8Z h rfl
section
variable {M:List Rat} {F G:PQ} (hM:Mk M) (hF:Few F) (hG:Few G)
include hM hF hG
theorem B9:Ev (fun k=>v6 k (fm F) (fm G)) (fm (A3K F G))∧Ev (fun k=>A4z k (fm F) (fm G)) (fm (A3K F G))∧A3C (fm (A3K F G))∧
  Ev (fun k=>A5P k (fm F) (fm G)) (fm (A3M F G))∧Ev (fun k=>A5O k (fm F) (fm G)) (fm (A3M F G))∧A3C (fm (A3M F G))∧
  Ev (fun k=>v3 k (M.map fr) (fm F) (fm G)) (fm (t3 M F G))∧Ev (fun k=>A5A k (M.map fr) (fm F) (fm G)) (fm (t3 M F G))∧A3C (fm (t3 M F G)):=by
 obtain⟨D,d0,d1,d2,d3⟩:=F4t hF hG
 have lF:=hF.1
 have lG:=hG.1
 have s1:∀i,(D6 F i).length<400000∧∀x,x∈D6 F i→Sm 9000 x:=fun i=>(d2 i).sl d0 (by omega) (by decide) (by decide)
 have s2:∀i,(D6 G i).length<400000∧∀x,x∈D6 G i→Sm 9000 x:=fun i=>(d3 i).sl d0 (by omega) (by decide) (by decide)
 have dd:(B2 (D*D)).size≤1024:=Nat.le_trans (A2T d1 d1) (by decide)
 refine⟨F6p (by omega) (by omega) s1 s2,E2Q (by omega) (by omega) s1 s2,C7T (by omega) d0 (by omega) (s:=331) (B:=4) (by decide) (by decide) fun i=>(d2 i).add d0 (d3 i) (Nat.le_refl _) (Nat.le_refl _),
  E7q (by omega) (by omega) s1 s2,E0Z (by omega) (by omega) s1 s2,C7T (by omega) d0 (by omega) (s:=331) (B:=4) (by decide) (by decide) fun i=>(d2 i).sub d0 (d3 i) (Nat.le_refl _) (Nat.le_refl _),
  E3b hM d0 d0 d2 d3 (by omega) (by omega) (by omega) (by omega) (by decide),E9w hM d0 d0 d2 d3 (by omega) (by omega) (by omega) (by omega) (by decide),?_⟩
 refine C7T (by omega) (A1g d0 d0) dd (s:=800) (B:=30) (by decide) (by decide) fun i=>?_
 exact((B2o hM d0 d0 d2 d3 i F.length).rem hM (A1g d0 d0)).mono (by omega) (by have:=hM.pz.len;omega)
end
theorem F6t (m:FP) (f g:List FP):Ev (fun k=>B1K k m f g) true:=by
 show Ev (fun k=>B10 (A4I k) (S1 k) (A3T k) (A5I k) (A3P k) (A3d k) (A3g k) (A3J k) (A3B k) (A3c k) _ _ _) _
 unfold B10
 refine Ev.bind (E3s m (l:=[f,g]) (by simp)) ?_
 cases hg:B9i m [f,g]with
 |true=>exact A1K rfl (Ev.bind C8W (Ev.now _))
 |false=>
  refine A2m rfl (Ev.bind (B6A m f) (Ev.bind (B6A m g) (Ev.bind (E9r (l:=[kck m f,kck m g]) (by simp)) ?_)))
  rw [←D5y]
  by_cases c:fst m [f,g]≠0
  ·exact Ev.bind (F3J c) (Ev.bind (F7D c) (Ev.bind (E4r c) (Ev.bind (E8O c) (A1K rfl (Ev.bind (F0I c) (A1K rfl (Ev.bind (E4s c) (A1K rfl (Ev.bind C8W (Ev.now _))))))))))
  ·have c':=Decidable.not_not.1 c
   obtain⟨c1,c2⟩:=E8Q ((D5y m f g).symm.trans c')
   obtain⟨hk,hh⟩:=F0a (E7U c1) hg
   obtain⟨F,rfl,hF⟩:=hh f (by simp) c1
   obtain⟨G,rfl,hG⟩:=hh g (by simp) c2
   obtain⟨M,rfl,hM,_⟩:=D5F hk
   obtain⟨a1,a2,a3,s1,s2,s3,m1,m2,m3⟩:=B9 hM hF hG
   have h1:=B6V (M.map fr) (l:=[fm F,fm G]) (by simp)
   rw [c']at h1
   have hA:Ev (fun k=>A3B k (M.map fr) (fm F) (fm G)) (fm (A3K F G),(0:Int)):=by
    show Ev (fun k=>B63 (F8 k) (A3o k) _ _ _) _
    unfold B63
    have h2:Ev (fun k=>A3o k (fm F,fm G,())) (fm (A3K F G),(0:Int)):=by
     show Ev (fun k=>B4F (K4 k) (A5T k) _) _
     unfold B4F
     have h3:Ev (fun k=>A5T k (fm F) (fm G)) (fm (A3K F G)):=Ev.bind a1 (Ev.now _)
     exact Ev.bind h3 (Ev.bind a3.large (A2m rfl (Ev.now _)))
    exact Ev.bind h1 (C8 (fun h=>h rfl) (Ev.bind h2 (Ev.now _)))
   have hS:Ev (fun k=>A3c k (M.map fr) (fm F) (fm G)) (fm (A3M F G),(0:Int)):=by
    show Ev (fun k=>A6 (F8 k) (A3Z k) _ _ _) _
    unfold A6
    have h2:Ev (fun k=>A3Z k (fm F,fm G,())) (fm (A3M F G),(0:Int)):=by
     show Ev (fun k=>B3i (K4 k) (A5D k) _) _
     unfold B3i
     have h3:Ev (fun k=>A5D k (fm F) (fm G)) (fm (A3M F G)):=Ev.bind s1 (Ev.now _)
     exact Ev.bind h3 (Ev.bind s3.large (A2m rfl (Ev.now _)))
    exact Ev.bind h1 (C8 (fun h=>h rfl) (Ev.bind h2 (Ev.now _)))
   have hP:Ev (fun k=>A3J k (M.map fr) (fm F) (fm G)) (fm (t3 M F G),(0:Int)):=by
    show Ev (fun k=>B53 (F8 k) (A4C k) _ _ _) _
    unfold B53
    have h2:Ev (fun k=>A4C k (M.map fr,fm F,fm G,())) (fm (t3 M F G),(0:Int)):=by
     show Ev (fun k=>B4T (K4 k) (A4r k) _) _
     unfold B4T
     have h3:Ev (fun k=>A4r k (M.map fr) (fm F) (fm G)) (fm (t3 M F G)):=Ev.bind m1 (Ev.now _)
     exact Ev.bind h3 (Ev.bind m3.large (A2m rfl (Ev.now _)))
    exact Ev.bind h1 (C8 (fun h=>h rfl) (Ev.bind h2 (Ev.now _)))
   have iA:Ev (fun k=>A3P k (fm (A3K F G)) 0 0 (fm F,fm G,())) true:=by
    show Ev (fun k=>A8D (N5 k) (Q7 k) (A3X k) _ _ _ _) _
    unfold A8D
    have h3:Ev (fun k=>A3X k (fm F) (fm G)) (fm (A3K F G)):=Ev.bind a2 (Ev.now _)
    exact C8 (fun h=>h rfl) (Ev.bind h3 (Ev.bind a3.Rlarge (C8 (fun h=>h rfl) (C1 rfl (Ev.bind a3.same (Ev.now _))))))
   have iS:Ev (fun k=>A3d k (fm (A3M F G)) 0 0 (fm F,fm G,())) true:=by
    show Ev (fun k=>A7f (N5 k) (Q7 k) (A3U k) _ _ _ _) _
    unfold A7f
    have h3:Ev (fun k=>A3U k (fm F) (fm G)) (fm (A3M F G)):=Ev.bind s2 (Ev.now _)
    exact C8 (fun h=>h rfl) (Ev.bind h3 (Ev.bind s3.Rlarge (C8 (fun h=>h rfl) (C1 rfl (Ev.bind s3.same (Ev.now _))))))
   have iP:Ev (fun k=>A3g k (fm (t3 M F G)) 0 0 (M.map fr,fm F,fm G,())) true:=by
    show Ev (fun k=>A8a (N5 k) (Q7 k) (A3h k) _ _ _ _) _
    unfold A8a
    have h3:Ev (fun k=>A3h k (M.map fr) (fm F) (fm G)) (fm (t3 M F G)):=Ev.bind m2 (Ev.now _)
    exact C8 (fun h=>h rfl) (Ev.bind h3 (Ev.bind m3.Rlarge (C8 (fun h=>h rfl) (C1 rfl (Ev.bind m3.same (Ev.now _))))))
   rw [c']
   exact Ev.bind hA (Ev.bind hS (Ev.bind hP (Ev.bind iA (A1K rfl (Ev.bind iS (A1K rfl (Ev.bind iP (A1K rfl (Ev.bind C8W (Ev.now _))))))))))
theorem law_at (m:FP) (f g:List FP):∃k,B1K k m f g=some true:=(F6t m f g).rounds
end Go.Proofs.YtijohnkgomcdbaaGreatV
namespace Go.Proofs.YtijohnkgomcdbaaGreatJ
open Go Go.RowKit Go.ChangeShapes Go.WideShapes Go.ChangeAt YtijohnkgomcdbaaGreatE
theorem F4V (b:Nat):¬C6 (fun _=> .fresh) (fun _=>⟨0,0,some 0⟩) b:=by rintro⟨_,⟨_,_,_,e⟩,_⟩;cases e
def A1j (P:Program) (t:TypeId) (ty:Ty):Prop:=∀(H:Type) (enc:TypeId×Value→H) (w:World) (base:Nat) (spare:Nat→Bool) (held:Bool) (n:Nat) (cs:List Value) (x:DataW H×List MemPlace),
 DataW.trod enc P w base spare held n t cs=some x→∃y:ty.T,D3 w (C6 (fun _=> .fresh) (fun _=>⟨0,0,some 0⟩)) ty y cs
section
variable {P:Program} {t e:TypeId} {a b:Ty} {f0 f1:Field}
theorem C4b (h:P.underlying t=some .bool):A1j P t .bo:=fun H enc w base spare held n cs x hx=>by
 obtain⟨b,rfl,_⟩:=DataW.trod_bool h hx
 exact⟨b,rfl⟩
theorem B1b (h:P.underlying t=some .string):A1j P t .st:=fun H enc w base spare held n cs x hx=>by
 obtain⟨b,rfl,_⟩:=DataW.trod_string h hx
 exact⟨b,rfl⟩
theorem E4o (h:P.underlying t=some (.struct #[f0])) (o:f0.offset=0) (hc:P.cellsOf t=P.cellsOf f0.type) (r:A1j P f0.type a):A1j P t (.ag a):=fun H enc w base spare held n cs x hx=>by
 obtain⟨y0,m,_,hl,h0⟩:=trod_struct1 h hx
 rw [o,List.drop_zero,List.take_of_length_le (by omega)]at h0
 obtain⟨y,hy⟩:=r H enc w base spare held m cs y0 h0
 exact⟨y,hy⟩
theorem B2A (h:P.underlying t=some (.struct #[f0,f1])) (o0:f0.offset=0) (o1:f1.offset=P.cellsOf f0.type) (hc:P.cellsOf t=P.cellsOf f0.type+P.cellsOf f1.type) (r0:A1j P f0.type a) (r1:A1j P f1.type b):
  A1j P t (.ag (.pr a b)):=fun H enc w base spare held n cs x hx=>by
 obtain⟨y0,y1,m,_,hl,h0,h1⟩:=trod_struct2 h hx
 rw [o0,List.drop_zero]at h0
 rw [o1,List.take_of_length_le (l:=cs.drop _) (by rw [List.length_drop];omega)]at h1
 obtain⟨z0,hz0⟩:=r0 H enc w base spare held m _ y0 h0
 obtain⟨z1,hz1⟩:=r1 H enc w base spare held m _ y1 h1
 exact⟨(z0,z1),_,_,(List.take_append_drop _ cs).symm,hz0,hz1⟩
theorem E5R {b o i j:Nat}:((⟨b,o,none⟩:Addr).add i).add j=⟨b,o+i+j,none⟩:=by
 rw [Go.Deep.add_add]
 unfold Addr.add
 split
 ·rename_i h
  rw [show o+i+j=o by omega]
 ·rw [Nat.add_assoc]
theorem B3E (h:P.underlying t=some (.slice e)) (hs:P.cellsOf e=a.sz) (hp:0<a.sz) (r:A1j P e a):A1j P t (.li a):=fun H enc w base spare held n cs x hx=>by
 rcases Go.Deep.open_slice h hx with⟨rfl,_⟩| ⟨ad,len,cap,m,k,D,Pl,rfl,_,hl,_,hm,_,hx⟩
 ·exact⟨([]:List a.T),none,0,rfl,Nat.le_refl _,Or.inl rfl⟩
 ·rcases Nat.eq_zero_or_pos len with rfl|h0
  ·exact⟨([]:List a.T),some ad,cap,rfl,Nat.zero_le _,Or.inl rfl⟩
  ·have hlm:len≤m:=by rw [hm];split<;>omega
   have key:∀i,i<len→∃y:a.T,∃ci,w.cells? base (ad.add (i*a.sz)) a.sz=some ci∧D3 w (C6 (fun _=> .fresh) (fun _=>⟨0,0,some 0⟩)) a y ci:=fun i hi=>by
    obtain⟨ci,h1,h2⟩:=hx i (by omega)
    obtain⟨y,hy⟩:=r H enc w base spare held k ci _ h2
    exact⟨y,ci,by rw [←hs];exact h1,hy⟩
   obtain⟨y0,c0,k0,_⟩:=key 0 h0
   haveI:Inhabited a.T:=⟨y0⟩
   obtain⟨f,hf⟩:=Go.Deep.choose_lt (α:=a.T) key
   have hsp:ad.spot=none∧ad.block<w.heap.size:=by
    obtain⟨_,hlen,hc⟩:=World.cells?_some k0
    have h1:=hc 0 hp
    rw [Nat.zero_mul,show(ad.add 0).add 0=ad from rfl,List.getElem?_eq_getElem (by omega)]at h1
    unfold World.cell? at h1
    split at h1
    ·rename_i c el fz hh
     split at h1
     ·cases h1
     ·rename_i hsp
      exact⟨by cases hq:ad.spot with|none=>rfl|some _=>rw [hq]at hsp;exact absurd rfl hsp,by
       rcases Nat.lt_or_ge ad.block w.heap.size with h2|h2
       ·exact h2
       ·rw [Array.getElem?_eq_none h2]at hh;cases hh⟩
    ·cases h1
   obtain⟨b,o,sp⟩:=ad
   obtain⟨rfl,hb⟩:sp=none∧b<w.heap.size:=hsp
   refine⟨(List.range len).map f,some ⟨b,o,none⟩,cap,by rw [List.length_map,List.length_range],by rw [List.length_map,List.length_range];exact hl,Or.inr ⟨b,o,rfl,F4V b,hb,fun i y hy=>?_⟩⟩
   have hi:i<len:=by
    rcases Nat.lt_or_ge i len with h1|h1
    ·exact h1
    ·unfold K2 at hy
     rw [List.getElem?_eq_none (by rw [List.length_map,List.length_range];exact h1)]at hy;cases hy
   obtain⟨ci,h1,h2⟩:=hf i hi
   obtain⟨_,hlen,hc⟩:=World.cells?_some h1
   have hyf:f i=y:=by
    unfold K2 at hy
    rw [List.getElem?_map,List.getElem?_range hi]at hy
    exact Option.some.inj hy
   rw [←hyf]
   refine⟨ci,fun j v hj=>?_,h2⟩
   have hjl:j<a.sz:=by
    rcases Nat.lt_or_ge j a.sz with h3|h3
    ·exact h3
    ·rw [List.getElem?_eq_none (by omega)]at hj;cases hj
   have h4:=hc j hjl
   rw [E5R,hj]at h4
   exact h4
end
section
variable {H:Type} {enc:TypeId×Value→H} {P:Program} {w:World} {base b0:Nat} {spare:Nat→Bool} {held:Bool} {r:Reach} {t e:TypeId} {v:Value} {d:DataW H} {p:List MemPlace} {a:Ty}
theorem at_slice (ht:P.underlying t=some (.slice e)) (hr:A1j P t (.li a)) (hv:Value.okWide P w r b0 t v) (h:DataW.Trod enc P w base spare held t v d p):∃y:Ty.T (.li a),At0 w (.li a) y v:=by
 obtain⟨ad,len,cap,rfl⟩:=okWide_slice ht hv
 obtain⟨n,hn⟩:=h
 obtain⟨y,hy⟩:=hr H enc w base spare held n _ _ hn
 exact⟨y,_,hy,rfl⟩
theorem at_struct {fs:Array Field} (ht:P.underlying t=some (.struct fs)) (hr:A1j P t (.ag a)) (hv:Value.okWide P w r b0 t v) (h:DataW.Trod enc P w base spare held t v d p):∃y:Ty.T (.ag a),At0 w (.ag a) y v:=by
 obtain⟨cs,rfl,_⟩:=okWide_struct ht hv
 obtain⟨n,hn⟩:=h
 obtain⟨y,hy⟩:=hr H enc w base spare held n _ _ hn
 exact⟨y,_,hy,rfl⟩
theorem again {w w':World} (hl:laidOutB P=true) (hr:P.readableRec t=true) (hrow:t<P.types.size) (h:DataW.Trod enc P w base (fun _=>true) true t v d p)
  (hb:Below w.heap.size w w') (hlt:∀x∈p,x.block<w.heap.size):DataW.Trod enc P w' base (fun b=>decide (b<w.heap.size)) true t v d p:=
 Go.WideElems.Trod_stays hl hr hrow h (fun x hx=>by
  have:=hb.block x.block (hlt x hx)
  cases x<;>simp_all [World.sameAt,World.cell?,MemPlace.block]) (fun x hx=>by simpa using hlt x hx)
end
end Go.Proofs.YtijohnkgomcdbaaGreatJ
namespace Go.Proofs.YtijohnkgomcdbaaGreat.Pure
open Go Go.RowKit Go.Proofs.YtijohnkgomcdbaaGreatE
theorem FieldpolyArithmetic (a:Ty.T (.ag (.li (.ag (.pr (.ag (.pr .bo .st)) .st))))) (b:Ty.T (.li (.li (.ag (.pr (.ag (.pr .bo .st)) .st))))) (c:Ty.T (.li (.li (.ag (.pr (.ag (.pr .bo .st)) .st))))) (w:World) {va vb vc:Value}
    (ra:At0 w _ a va) (rb:At0 w _ b vb) (rc:At0 w _ c vc):
    Calls Tryz.prog 10 #[va,vb,vc] w fun e w'=>e= .returned (.bool true)∧Below w.heap.size w w':=
  Go.Proofs.YtijohnkgomcdbaaGreatV.calls10 a b c (Go.Proofs.YtijohnkgomcdbaaGreatV.law_at a b c) w ra rb rc
end Go.Proofs.YtijohnkgomcdbaaGreat.Pure
