/- Part of the proof of the statement FieldpolyValues: lemmas on the model's steps, Lean functions that say what the program's functions compute, and proofs that the calls do just that. No hypothesis is added. -/
import Derived.Test.YtijohnkgomcdbaaGreatKFieldpolyValues5
set_option linter.all false
set_option maxRecDepth 100000
namespace Go.Proofs.YtijohnkgomcdbaaGreatV
open Go Go.RowKit YtijohnkgomcdbaaGreat YtijohnkgomcdbaaGreatE YtijohnkgomcdbaaGreatW.PrintWords YtijohnkgomcdbaaGreatW.PrintLast YtijohnkgomcdbaaGreatW.PrintMore
theorem E5q (k:Nat) (x1:(List Int)) (x5:Int) (x6:Int) (x7:Int) (x8:Int) (y0:(List Int)):A0 (All.exact_step.l0 (k+1) y0 x1 x5 x6 x7 x8) (D0C (A3R k) (A2D k) (S7 k) (N0 k) x1 x5 x6 x7 x8 y0):=by
 rw [All.exact_step.l0]
 unfold D0C
 (try simp only [A3R,A2D,A3K,S7,N0,c7,R7,All.integer_zero.f,All.exact_stepAt.f,All.S24.f0,All.S24.f1,All.rd_T24,All.z24])
 (try simp only [F1,List.take_append_drop,List.drop_length,List.append_nil,Int.zero_sub,Int.toNat_natCast,Int.reduceToNat,Int.zero_add,List.take_zero,List.nil_append,List.append_assoc,List.length_set,W8,List.take_left,I0,bne,H2,decide_not,H3,if_true,if_false,Bool.false_eq_true,m4,t7,List.drop_zero,List.take_length,H7,F6,l7,C4,ite_not,Bool.and_eq_true,Bool.or_eq_true,Bool.not_eq_true',G9,Bool.not_eq_false',beq_iff_eq,decide_eq_true_eq,H4,G8,G6,ne_eq,H5,List.toList_toArray])
 repeat' first
 | (with_reducible refine A0.trans ((All.exact_step.mono_l k).1 _ _ _ _ _ _) ?_;rw [All.exact_step.j0];(try simp only [F1,if_true,if_false,decide_eq_true_eq,Bool.false_eq_true,decide_not,ite_not,bne,H2,beq_iff_eq,Bool.not_eq_true',G9,H5,List.toList_toArray,G8,G6,Bool.and_eq_true,Bool.or_eq_true,H4,H3,H7,All.integer_zero.f,F6,Int.toNat_natCast,Int.reduceToNat,Int.zero_sub,I0]))
 | (with_reducible refine A0.trans ((All.exact_step.mono_l k).2.1 _ _ _ _) ?_;rw [All.exact_step.j2];(try simp only [F1,if_true,if_false,decide_eq_true_eq,Bool.false_eq_true,decide_not,ite_not,bne,H2,beq_iff_eq,Bool.not_eq_true',G9,H5,List.toList_toArray,G8,G6,Bool.and_eq_true,Bool.or_eq_true,H4,H3,H7,All.integer_zero.f,F6,Int.toNat_natCast,Int.reduceToNat,Int.zero_sub,I0]))
 | (with_reducible exact A0.none _)
 | (with_reducible exact A0.refl _)
 | (with_reducible refine A0.posR (by with_reducible assumption) ?_)
 | (with_reducible refine A0.negR (by with_reducible assumption) ?_)
 | (with_reducible refine A0.bindR (by with_reducible assumption) ?_)
 | (with_reducible refine A0.posL (by with_reducible assumption) ?_)
 | (with_reducible refine A0.negL (by with_reducible assumption) ?_)
 | (with_reducible refine A0.iteL (fun _=>?_) (fun _=>?_))
 | (with_reducible refine A0.bindK (by with_reducible assumption) ?_)
 | (with_reducible refine A0.bindL (fun _ _=>?_))
 | (refine A0.posR (by first|decide|exact Int.le_refl _|omega|assumption) ?_)
 | (refine A0.negR (by first|decide|omega) ?_)
theorem F0a (k:Nat) (x1:(List Int)) (x5:Int) (x6:Int) (x11:Int) (x12:Int) (x104:Int) (x105:Int) (y0:(List Int)):A0 (All.exact_step.l1 (k+1) y0 x1 x5 x6 x11 x12 x104 x105) (C6X (A2D k) (A3K k) (S7 k) (N0 k) (c7 k) x1 x5 x6 x11 x12 x104 x105 y0):=by
 rw [All.exact_step.l1]
 unfold C6X
 (try simp only [A3R,A2D,A3K,S7,N0,c7,R7,All.integer_zero.f,All.exact_stepAt.f,All.S24.f0,All.S24.f1,All.rd_T24,All.z24])
 (try simp only [F1,List.take_append_drop,List.drop_length,List.append_nil,Int.zero_sub,Int.toNat_natCast,Int.reduceToNat,Int.zero_add,List.take_zero,List.nil_append,List.append_assoc,List.length_set,W8,List.take_left,I0,bne,H2,decide_not,H3,if_true,if_false,Bool.false_eq_true,m4,t7,List.drop_zero,List.take_length,H7,F6,l7,C4,ite_not,Bool.and_eq_true,Bool.or_eq_true,Bool.not_eq_true',G9,Bool.not_eq_false',beq_iff_eq,decide_eq_true_eq,H4,G8,G6,ne_eq,H5,List.toList_toArray])
 repeat' first
 | (with_reducible refine A0.trans ((All.exact_step.mono_l k).1 _ _ _ _ _ _) ?_;rw [All.exact_step.j0];(try simp only [F1,if_true,if_false,decide_eq_true_eq,Bool.false_eq_true,decide_not,ite_not,bne,H2,beq_iff_eq,Bool.not_eq_true',G9,H5,List.toList_toArray,G8,G6,Bool.and_eq_true,Bool.or_eq_true,H4,H3,H7,All.integer_zero.f,F6,Int.toNat_natCast,Int.reduceToNat,Int.zero_sub,I0]))
 | (with_reducible refine A0.trans ((All.exact_step.mono_l k).2.1 _ _ _ _) ?_;rw [All.exact_step.j2];(try simp only [F1,if_true,if_false,decide_eq_true_eq,Bool.false_eq_true,decide_not,ite_not,bne,H2,beq_iff_eq,Bool.not_eq_true',G9,H5,List.toList_toArray,G8,G6,Bool.and_eq_true,Bool.or_eq_true,H4,H3,H7,All.integer_zero.f,F6,Int.toNat_natCast,Int.reduceToNat,Int.zero_sub,I0]))
 | (with_reducible exact A0.none _)
 | (with_reducible exact A0.refl _)
 | (with_reducible refine A0.posR (by with_reducible assumption) ?_)
 | (with_reducible refine A0.negR (by with_reducible assumption) ?_)
 | (with_reducible refine A0.bindR (by with_reducible assumption) ?_)
 | (with_reducible refine A0.posL (by with_reducible assumption) ?_)
 | (with_reducible refine A0.negL (by with_reducible assumption) ?_)
 | (with_reducible refine A0.iteL (fun _=>?_) (fun _=>?_))
 | (with_reducible refine A0.bindK (by with_reducible assumption) ?_)
 | (with_reducible refine A0.bindL (fun _ _=>?_))
 | (refine A0.posR (by first|decide|exact Int.le_refl _|omega|assumption) ?_)
 | (refine A0.negR (by first|decide|omega) ?_)
theorem F5J (k:Nat) (x1:(List Int)) (x5:Int) (x6:Int) (x17:Int) (x156:Int) (x157:Int) (y0:(List Int)):A0 (All.exact_step.l2 (k+1) y0 x1 x5 x6 x17 x156 x157) (C4y (A3K k) (N0 k) x1 x5 x6 x17 x156 x157 y0):=by
 rw [All.exact_step.l2]
 unfold C4y
 (try simp only [A3R,A2D,A3K,S7,N0,c7,R7,All.integer_zero.f,All.exact_stepAt.f,All.S24.f0,All.S24.f1,All.rd_T24,All.z24])
 (try simp only [F1,List.take_append_drop,List.drop_length,List.append_nil,Int.zero_sub,Int.toNat_natCast,Int.reduceToNat,Int.zero_add,List.take_zero,List.nil_append,List.append_assoc,List.length_set,W8,List.take_left,I0,bne,H2,decide_not,H3,if_true,if_false,Bool.false_eq_true,m4,t7,List.drop_zero,List.take_length,H7,F6,l7,C4,ite_not,Bool.and_eq_true,Bool.or_eq_true,Bool.not_eq_true',G9,Bool.not_eq_false',beq_iff_eq,decide_eq_true_eq,H4,G8,G6,ne_eq,H5,List.toList_toArray])
 repeat' first
 | (with_reducible refine A0.trans ((All.exact_step.mono_l k).1 _ _ _ _ _ _) ?_;rw [All.exact_step.j0];(try simp only [F1,if_true,if_false,decide_eq_true_eq,Bool.false_eq_true,decide_not,ite_not,bne,H2,beq_iff_eq,Bool.not_eq_true',G9,H5,List.toList_toArray,G8,G6,Bool.and_eq_true,Bool.or_eq_true,H4,H3,H7,All.integer_zero.f,F6,Int.toNat_natCast,Int.reduceToNat,Int.zero_sub,I0]))
 | (with_reducible refine A0.trans ((All.exact_step.mono_l k).2.1 _ _ _ _) ?_;rw [All.exact_step.j2];(try simp only [F1,if_true,if_false,decide_eq_true_eq,Bool.false_eq_true,decide_not,ite_not,bne,H2,beq_iff_eq,Bool.not_eq_true',G9,H5,List.toList_toArray,G8,G6,Bool.and_eq_true,Bool.or_eq_true,H4,H3,H7,All.integer_zero.f,F6,Int.toNat_natCast,Int.reduceToNat,Int.zero_sub,I0]))
 | (with_reducible exact A0.none _)
 | (with_reducible exact A0.refl _)
 | (with_reducible refine A0.posR (by with_reducible assumption) ?_)
 | (with_reducible refine A0.negR (by with_reducible assumption) ?_)
 | (with_reducible refine A0.bindR (by with_reducible assumption) ?_)
 | (with_reducible refine A0.posL (by with_reducible assumption) ?_)
 | (with_reducible refine A0.negL (by with_reducible assumption) ?_)
 | (with_reducible refine A0.iteL (fun _=>?_) (fun _=>?_))
 | (with_reducible refine A0.bindK (by with_reducible assumption) ?_)
 | (with_reducible refine A0.bindL (fun _ _=>?_))
 | (refine A0.posR (by first|decide|exact Int.le_refl _|omega|assumption) ?_)
 | (refine A0.negR (by first|decide|omega) ?_)
theorem E1g (k:Nat) (x1:(List Int)) (y0:(List Int)):A0 (A1G k x1 y0) (C1o (A3R k) (N0 k) (R7 k) x1 y0):=by
 show A0 (All.exact_step.f k y0 x1) _
 unfold All.exact_step.f
 unfold C1o
 (try simp only [A3R,A2D,A3K,S7,N0,c7,R7,All.integer_zero.f,All.exact_stepAt.f,All.S24.f0,All.S24.f1,All.rd_T24,All.z24])
 (try simp only [F1,List.take_append_drop,List.drop_length,List.append_nil,Int.zero_sub,Int.toNat_natCast,Int.reduceToNat,Int.zero_add,List.take_zero,List.nil_append,List.append_assoc,List.length_set,W8,List.take_left,I0,bne,H2,decide_not,H3,if_true,if_false,Bool.false_eq_true,m4,t7,List.drop_zero,List.take_length,H7,F6,l7,C4,ite_not,Bool.and_eq_true,Bool.or_eq_true,Bool.not_eq_true',G9,Bool.not_eq_false',beq_iff_eq,decide_eq_true_eq,H4,G8,G6,ne_eq,H5,List.toList_toArray])
 repeat' first
 | (with_reducible refine A0.trans ((All.exact_step.mono_l k).1 _ _ _ _ _ _) ?_;rw [All.exact_step.j0];(try simp only [F1,if_true,if_false,decide_eq_true_eq,Bool.false_eq_true,decide_not,ite_not,bne,H2,beq_iff_eq,Bool.not_eq_true',G9,H5,List.toList_toArray,G8,G6,Bool.and_eq_true,Bool.or_eq_true,H4,H3,H7,All.integer_zero.f,F6,Int.toNat_natCast,Int.reduceToNat,Int.zero_sub,I0]))
 | (with_reducible refine A0.trans ((All.exact_step.mono_l k).2.1 _ _ _ _) ?_;rw [All.exact_step.j2];(try simp only [F1,if_true,if_false,decide_eq_true_eq,Bool.false_eq_true,decide_not,ite_not,bne,H2,beq_iff_eq,Bool.not_eq_true',G9,H5,List.toList_toArray,G8,G6,Bool.and_eq_true,Bool.or_eq_true,H4,H3,H7,All.integer_zero.f,F6,Int.toNat_natCast,Int.reduceToNat,Int.zero_sub,I0]))
 | (with_reducible exact A0.none _)
 | (with_reducible exact A0.refl _)
 | (with_reducible refine A0.posR (by with_reducible assumption) ?_)
 | (with_reducible refine A0.negR (by with_reducible assumption) ?_)
 | (with_reducible refine A0.bindR (by with_reducible assumption) ?_)
 | (with_reducible refine A0.posL (by with_reducible assumption) ?_)
 | (with_reducible refine A0.negL (by with_reducible assumption) ?_)
 | (with_reducible refine A0.iteL (fun _=>?_) (fun _=>?_))
 | (with_reducible refine A0.bindK (by with_reducible assumption) ?_)
 | (with_reducible refine A0.bindL (fun _ _=>?_))
 | (refine A0.posR (by first|decide|exact Int.le_refl _|omega|assumption) ?_)
 | (refine A0.negR (by first|decide|omega) ?_)
theorem E1m (k:Nat):B5 Tryz.prog (D7o (A1G k)):=
 B6 B7 HM A4L (es:=fun k=>B4v (S7 k) (N0 k) (c7 k) (R7 k)) (fun k=>fc ⟨E0F k,fc ⟨C3G k,fc ⟨D3J k,fc ⟨D4w k,fz⟩⟩⟩⟩) Tryz.func280 3 (by kernel_rfl) (fun s=>rfl) (fun k=>B5X (A3R k) (A2D k) (A3K k)) (fc ⟨fun s=>rfl,fc ⟨fun s=>rfl,fc ⟨fun s=>rfl,fz⟩⟩⟩) (fun k s0=> .cons (by kernel_rfl) (by kernel_rfl) (fun s r h=>(E3p (A3R k) (A2D k) (A3K k) (S7 k) (N0 k) (c7 k) (R7 k) s0 s).trans (E5q k s.1.1 s.1.2.1 s.1.2.2.1 s.1.2.2.2.1 s.1.2.2.2.2.1 s.2.1 r h)) (.cons (by kernel_rfl) (by kernel_rfl) (fun s r h=>(E7r (A3R k) (A2D k) (A3K k) (S7 k) (N0 k) (c7 k) (R7 k) s0 s).trans (F0a k s.1.1 s.1.2.1 s.1.2.2.1 s.1.2.2.2.1 s.1.2.2.2.2.1 s.1.2.2.2.2.2.1 s.1.2.2.2.2.2.2.1 s.2.1 r h)) (.cons (by kernel_rfl) (by kernel_rfl) (fun s r h=>(F1h (A3R k) (A2D k) (A3K k) (S7 k) (N0 k) (c7 k) (R7 k) s0 s).trans (F5J k s.1.1 s.1.2.1 s.1.2.2.1 s.1.2.2.2.1 s.1.2.2.2.2.1 s.1.2.2.2.2.2.1 s.2.1 r h)) (.nil)))) (F:=fun k s=>A1G k s.1.1 s.2.1) (fun k s r h=>(F8s (A3R k) (A2D k) (A3K k) (S7 k) (N0 k) (c7 k) (R7 k) s).trans (E1g k s.1.1 s.2.1 r h)) k
noncomputable abbrev A3B (k:Nat) (x0:(List Int)) (x1:(List Int)) (x7:Int) (x8:Int) (x6:(List Int)):Option U4:=All.exact_divide.l0 k x0 x1 x6 x7 x8
noncomputable abbrev A2x (k:Nat) (x9:Int) (x10:(List Int)) (x12:Int) (x14:Int) (x11:(List Int)) (x13:(List Int)):Option U4:=All.exact_divide.l1 k x9 x10 x11 x12 x13 x14
noncomputable abbrev A2J (k:Nat) (x9:Int) (x12:Int) (x96:Int) (x97:Int) (x11:(List Int)) (x13:(List Int)):Option U4:=All.exact_divide.l2 k x9 x11 x12 x13 x96 x97
theorem E1c (k:Nat) (x0:(List Int)) (x1:(List Int)) (x7:Int) (x8:Int) (x6:(List Int)):A0 (All.exact_divide.l0 (k+1) x0 x1 x6 x7 x8) (C2g (A3B k) (M5 k) (R7 k) x0 x1 x7 x8 x6):=by rw [All.exact_divide.l0];unfold C2g;(try simp only [A3B,A2x,A2J,M5,A0Z,R7,V4,A1H,A1G,All.integer_zero.f,All.exact_stepAt.f,All.S24.f0,All.S24.f1,All.rd_T24,All.z24]);exact BR
theorem E3d (k:Nat) (x9:Int) (x10:(List Int)) (x12:Int) (x14:Int) (x11:(List Int)) (x13:(List Int)):A0 (All.exact_divide.l1 (k+1) x9 x10 x11 x12 x13 x14) (D0d (A2x k) (A2J k) (A1G k) x9 x10 x12 x14 x11 x13):=by rw [All.exact_divide.l1];unfold D0d;(try simp only [A3B,A2x,A2J,M5,A0Z,R7,V4,A1H,A1G,All.integer_zero.f,All.exact_stepAt.f,All.S24.f0,All.S24.f1,All.rd_T24,All.z24]);exact BR
theorem E7R (k:Nat) (x9:Int) (x12:Int) (x96:Int) (x97:Int) (x11:(List Int)) (x13:(List Int)):A0 (All.exact_divide.l2 (k+1) x9 x11 x12 x13 x96 x97) (C4A (A2J k) (M5 k) x9 x12 x96 x97 x11 x13):=by rw [All.exact_divide.l2];unfold C4A;(try simp only [A3B,A2x,A2J,M5,A0Z,R7,V4,A1H,A1G,All.integer_zero.f,All.exact_stepAt.f,All.S24.f0,All.S24.f1,All.rd_T24,All.z24]);exact BR
theorem E8a (k:Nat) (x0:(List Int)) (x1:(List Int)):A0 (A0l k x0 x1) (C8G (A3B k) (A2x k) (M5 k) (A0Z k) (V4 k) (A1H k) x0 x1):=by
 show A0 (All.exact_divide.f k x0 x1) _
 unfold All.exact_divide.f;unfold C8G;(try simp only [A3B,A2x,A2J,M5,A0Z,R7,V4,A1H,A1G,All.integer_zero.f,All.exact_stepAt.f,All.S24.f0,All.S24.f1,All.rd_T24,All.z24]);exact BR
theorem D4o (k:Nat):B5 Tryz.prog (C6H (A0l k)):=
 B6 B7 HM A3b (es:=fun k=>B5l (M5 k) (A0Z k) (R7 k) (V4 k) (A1H k) (A1G k)) (fun k=>fc ⟨D0z k,fc ⟨E1B k,fc ⟨D4w k,fc ⟨D5q k,fc ⟨F7z k,fc ⟨E1m k,fz⟩⟩⟩⟩⟩⟩) Tryz.func244 3 (by kernel_rfl) (fun s=>rfl) (fun k=>B3z (A3B k) (A2x k) (A2J k)) (fc ⟨fun s=>rfl,fc ⟨fun s=>rfl,fc ⟨fun s=>rfl,fz⟩⟩⟩) (fun k s0=> .cons (by kernel_rfl) (by kernel_rfl) (fun s r h=>(F4z (A3B k) (A2x k) (A2J k) (M5 k) (A0Z k) (R7 k) (V4 k) (A1H k) (A1G k) s0 s).trans (E1c k s.1.1 s.1.2.1 s.1.2.2.1 s.1.2.2.2.1 s.2.1 r h)) (.cons (by kernel_rfl) (by kernel_rfl) (fun s r h=>(F5F (A3B k) (A2x k) (A2J k) (M5 k) (A0Z k) (R7 k) (V4 k) (A1H k) (A1G k) s0 s).trans (E3d k s.1.1 s.1.2.1 s.1.2.2.1 s.1.2.2.2.1 s.2.1 s.2.2.1 r h)) (.cons (by kernel_rfl) (by kernel_rfl) (fun s r h=>(F0c (A3B k) (A2x k) (A2J k) (M5 k) (A0Z k) (R7 k) (V4 k) (A1H k) (A1G k) s0 s).trans (E7R k s.1.1 s.1.2.1 s.1.2.2.1 s.1.2.2.2.1 s.2.1 s.2.2.1 r h)) (.nil)))) (F:=fun k s=>A0l k s.1.1 s.1.2.1) (fun k s r h=>(F6S (A3B k) (A2x k) (A2J k) (M5 k) (A0Z k) (R7 k) (V4 k) (A1H k) (A1G k) s).trans (E8a k s.1.1 s.1.2.1 r h)) k
noncomputable abbrev A8t (k:Nat) (x5:(List Int)) (x6:(List Int)):Option A1J:=All.exact_NatGcd.l0 k x5 x6
theorem E8e (k:Nat) (x5:(List Int)) (x6:(List Int)):A0 (All.exact_NatGcd.l0 (k+1) x5 x6) (C3a (A8t k) (H1 k) (A0l k) x5 x6):=by rw [All.exact_NatGcd.l0];unfold C3a;(try simp only [A8t,H1,J5,A0l,All.integer_zero.f,All.exact_stepAt.f,All.S24.f0,All.S24.f1,All.rd_T24,All.z24]);exact BR
theorem E9v (k:Nat) (x0:ByteArray) (x1:ByteArray):A0 (U6 k x0 x1) (C9d (A8t k) (J5 k) x0 x1):=by
 show A0 (All.exact_NatGcd.f k x0 x1) _
 unfold All.exact_NatGcd.f;unfold C9d;(try simp only [A8t,H1,J5,A0l,All.integer_zero.f,All.exact_stepAt.f,All.S24.f0,All.S24.f1,All.rd_T24,All.z24]);exact BR
theorem D4D (k:Nat):B5 Tryz.prog (C6N (U6 k)):=
 B6 B7 HM B2I (es:=fun k=>C7u (H1 k) (J5 k) (A0l k)) (fun k=>fc ⟨A8S k,fc ⟨B2e k,fc ⟨D4o k,fz⟩⟩⟩) Tryz.func215 1 (by kernel_rfl) (fun s=>rfl) (fun k=>C8b (A8t k)) (fc ⟨fun s=>rfl,fz⟩) (fun k s0=> .cons (by kernel_rfl) (by kernel_rfl) (fun s r h=>(F6g (A8t k) (H1 k) (J5 k) (A0l k) s0 s).trans (E8e k s.1.1 s.1.2.1 r h)) (.nil)) (F:=fun k s=>U6 k s.1.1 s.1.2.1) (fun k s r h=>(E6y (A8t k) (H1 k) (J5 k) (A0l k) s).trans (E9v k s.1.1 s.1.2.1 r h)) k
theorem F4E (k:Nat) (x0:TQ):A0 (N4 k x0) (A3P (s7 k) (Y4 k) (U6 k) x0):=A0.refl _
theorem E4X (k:Nat):B5 Tryz.prog (D6r (N4 k)):=
 B6 B7 HM B7m (es:=fun k=>D8n (s7 k) (Y4 k) (U6 k)) (fun k=>fc ⟨E4u k,fc ⟨D3W k,fc ⟨D4D k,fz⟩⟩⟩) Tryz.func172 0 (by kernel_rfl) (fun s=>rfl) (fun k=>[]) (fz) (fun k s0=> .nil) (F:=fun k s=>N4 k s.1.1) (fun k s r h=>(F5H (s7 k) (Y4 k) (U6 k) s).trans (F4E k s.1.1 r h)) k
theorem E4G (k:Nat) (x0:TP) (x9:TP) (x10:Int) (x11:Int):A0 (A0g (k+1) x0 x9 x10 x11) (A9k (A0g k) (J3 k) (N4 k) x0 x9 x10 x11):=by rw [A0g];exact A0.refl _
theorem E7A (k:Nat) (x0:TP):A0 (A0H k x0) (B3Q (A0g k) x0):=A0.refl _
theorem D6n (k:Nat):B5 Tryz.prog (C2s (A0H k)):=
 B6 B7 HM B0D (es:=fun k=>C4H (J3 k) (N4 k)) (fun k=>fc ⟨B8g k,fc ⟨E4X k,fz⟩⟩) Tryz.func120 1 (by kernel_rfl) (fun s=>rfl) (fun k=>C3y (A0g k)) (fc ⟨fun s=>rfl,fz⟩) (fun k s0=> .cons (by kernel_rfl) (by kernel_rfl) (fun s r h=>(E0U (A0g k) (J3 k) (N4 k) s0 s).trans (E4G k s.1.1 s.1.2.1 s.1.2.2.1 s.1.2.2.2.1 r h)) (.nil)) (F:=fun k s=>A0H k s.1.1) (fun k s r h=>(F6n (A0g k) (J3 k) (N4 k) s).trans (E7A k s.1.1 r h)) k
theorem F1y (k:Nat) (x0:TQ):A0 (A7u k x0) (C8W x0):=A0.refl _
theorem F8E (k:Nat):B5 Tryz.prog (D7F (A7u k)):=
 B6 B7 HM B7Q (es:=fun k=>[]) (fun k=>fz) Tryz.func171 0 (by kernel_rfl) (fun s=>rfl) (fun k=>[]) (fz) (fun k s0=> .nil) (F:=fun k s=>A7u k s.1.1) (fun k s r h=>(E8m s).trans (F1y k s.1.1 r h)) k
theorem E7f (k:Nat) (x0:TQ):A0 (A2c k x0) (C8H (A7u k) x0):=A0.refl _
theorem F7j (k:Nat):B5 Tryz.prog (D8o (A2c k)):=
 B6 B7 HM C1P (es:=fun k=>D7J (A7u k)) (fun k=>fc ⟨F8E k,fz⟩) Tryz.func170 0 (by kernel_rfl) (fun s=>rfl) (fun k=>[]) (fz) (fun k s0=> .nil) (F:=fun k s=>A2c k s.1.1) (fun k s r h=>(F0X (A7u k) s).trans (E7f k s.1.1 r h)) k
theorem F8l (k:Nat) (x0:TP) (x7:Int) (x8:Int):A0 (A0o (k+1) x0 x7 x8) (A9r (A0o k) (A2c k) x0 x7 x8):=by rw [A0o];exact A0.refl _
theorem E0d (k:Nat) (x0:TP):A0 (A6A k x0) (B5B (A0o k) x0):=A0.refl _
theorem F2e (k:Nat):B5 Tryz.prog (D5d (A6A k)):=
 B6 B7 HM B0F (es:=fun k=>C9a (A2c k)) (fun k=>fc ⟨F7j k,fz⟩) Tryz.func194 1 (by kernel_rfl) (fun s=>rfl) (fun k=>C8F (A0o k)) (fc ⟨fun s=>rfl,fz⟩) (fun k s0=> .cons (by kernel_rfl) (by kernel_rfl) (fun s r h=>(E7w (A0o k) (A2c k) s0 s).trans (F8l k s.1.1 s.1.2.1 s.1.2.2.1 r h)) (.nil)) (F:=fun k s=>A6A k s.1.1) (fun k s r h=>(E7S (A0o k) (A2c k) s).trans (E0d k s.1.1 r h)) k
theorem F3W (k:Nat) (x0:TP):A0 (A5R k x0) (C9V (A6A k) x0):=A0.refl _
theorem F1k (k:Nat):B5 Tryz.prog (D4U (A5R k)):=
 B6 B7 HM B8y (es:=fun k=>D9r (A6A k)) (fun k=>fc ⟨F2e k,fz⟩) Tryz.func153 0 (by kernel_rfl) (fun s=>rfl) (fun k=>[]) (fz) (fun k s0=> .nil) (F:=fun k s=>A5R k s.1.1) (fun k s r h=>(F0G (A6A k) s).trans (F3W k s.1.1 r h)) k
theorem E2B (k:Nat) (x0:TP):A0 (A3y k x0) (B6A (E2 k) (A0H k) (A5R k) x0):=A0.refl _
theorem E4M (k:Nat):B5 Tryz.prog (D3x (A3y k)):=
 B6 B7 HM B8q (es:=fun k=>D4m (E2 k) (A0H k) (A5R k)) (fun k=>fc ⟨A9b k,fc ⟨D6n k,fc ⟨F1k k,fz⟩⟩⟩) Tryz.func119 0 (by kernel_rfl) (fun s=>rfl) (fun k=>[]) (fz) (fun k s0=> .nil) (F:=fun k s=>A3y k s.1.1) (fun k s r h=>(F2T (E2 k) (A0H k) (A5R k) s).trans (E2B k s.1.1 r h)) k
theorem E1S (k:Nat) (x0:TP) (x1:TP):A0 (M7 k x0 x1) (B4s (A0H k) x0 x1):=A0.refl _
theorem B9p (k:Nat):B5 Tryz.prog (B3o (M7 k)):=
 B6 B7 HM B7T (es:=fun k=>D6d (A0H k)) (fun k=>fc ⟨D6n k,fz⟩) Tryz.func124 0 (by kernel_rfl) (fun s=>rfl) (fun k=>[]) (fz) (fun k s0=> .nil) (F:=fun k s=>M7 k s.1.1 s.1.2.1) (fun k s r h=>(F7O (A0H k) s).trans (E1S k s.1.1 s.1.2.1 r h)) k
theorem F6b (k:Nat) (x1:TF) (x11:TF) (x12:Int) (x13:Int) (x2:TP):A0 (A0S (k+1) x1 x11 x12 x13 x2) (A9G (A0S k) (M7 k) x1 x11 x12 x13 x2):=by rw [A0S];exact A0.refl _
theorem E6k (k:Nat) (x0:TP) (x1:TF):A0 (A2o k x0 x1) (B5A (A0S k) x0 x1):=A0.refl _
theorem F6R (k:Nat):B5 Tryz.prog (D7Y (A2o k)):=
 B6 B7 HM B2S (es:=fun k=>D1P (M7 k)) (fun k=>fc ⟨B9p k,fz⟩) Tryz.func138 1 (by kernel_rfl) (fun s=>rfl) (fun k=>C7R (A0S k)) (fc ⟨fun s=>rfl,fz⟩) (fun k s0=> .cons (by kernel_rfl) (by kernel_rfl) (fun s r h=>(F4y (A0S k) (M7 k) s0 s).trans (F6b k s.1.1 s.1.2.1 s.1.2.2.1 s.1.2.2.2.1 s.2.1 r h)) (.nil)) (F:=fun k s=>A2o k s.1.1 s.1.2.1) (fun k s r h=>(F5p (A0S k) (M7 k) s).trans (E6k k s.1.1 s.1.2.1 r h)) k
theorem F4o (k:Nat) (x14:(List TF)) (x15:Int) (x16:Int) (x2:TP):A0 (A1L (k+1) x14 x15 x16 x2) (A8d (A1L k) (A2o k) x14 x15 x16 x2):=by rw [A1L];exact A0.refl _
theorem b83 (k:Nat) (x0:TP) (x1:(List TF)):A0 (H9 k x0 x1) (B83 (A1L k) (A3y k) x0 x1):=A0.refl _
theorem B2s (k:Nat):B5 Tryz.prog (A9n (H9 k)):=
 B6 B7 HM D83 (es:=fun k=>C9Y (A3y k) (A2o k)) (fun k=>fc ⟨E4M k,fc ⟨F6R k,fz⟩⟩) Tryz.func83 1 (by kernel_rfl) (fun s=>rfl) (fun k=>C1z (A1L k)) (fc ⟨fun s=>rfl,fz⟩) (fun k s0=> .cons (by kernel_rfl) (by kernel_rfl) (fun s r h=>(F5q (A1L k) (A3y k) (A2o k) s0 s).trans (F4o k s.1.1 s.1.2.1 s.1.2.2.1 s.2.1 r h)) (.nil)) (F:=fun k s=>H9 k s.1.1 s.1.2.1) (fun k s r h=>(e83 (A1L k) (A3y k) (A2o k) s).trans (b83 k s.1.1 s.1.2.1 r h)) k
noncomputable abbrev A5j (k:Nat) (x1:(List Int)) (x20:(List Int)) (x21:Int) (x22:Int) (x5:(List Int)):Option i8:=All.exact_mulWords.l0 k x1 x5 x20 x21 x22
noncomputable abbrev A5b (k:Nat) (x1:(List Int)) (x6:Int) (x7:Int) (x8:Int) (x20:(List Int)) (x21:Int) (x22:Int) (x27:(List Int)) (x28:Int) (x29:Int) (x5:(List Int)):Option i8:=All.exact_mulWords.l1 k x1 x5 x6 x7 x8 x20 x21 x22 x27 x28 x29
theorem E8b (k:Nat) (x1:(List Int)) (x20:(List Int)) (x21:Int) (x22:Int) (x5:(List Int)):A0 (All.exact_mulWords.l0 (k+1) x1 x5 x20 x21 x22) (C6x (A5b k) (M5 k) x1 x20 x21 x22 x5):=by rw [All.exact_mulWords.l0];unfold C6x;(try simp only [A5j,A5b,M5,S7,N0,All.integer_zero.f,All.exact_stepAt.f,All.S24.f0,All.S24.f1,All.rd_T24,All.z24]);exact BR
theorem F1i (k:Nat) (x1:(List Int)) (x6:Int) (x7:Int) (x8:Int) (x20:(List Int)) (x21:Int) (x22:Int) (x27:(List Int)) (x28:Int) (x29:Int) (x5:(List Int)):A0 (All.exact_mulWords.l1 (k+1) x1 x5 x6 x7 x8 x20 x21 x22 x27 x28 x29) (C6h (A5j k) (A5b k) (S7 k) (N0 k) x1 x6 x7 x8 x20 x21 x22 x27 x28 x29 x5):=by rw [All.exact_mulWords.l1];unfold C6h;(try simp only [A5j,A5b,M5,S7,N0,All.integer_zero.f,All.exact_stepAt.f,All.S24.f0,All.S24.f1,All.rd_T24,All.z24]);exact BR
theorem E2Z (k:Nat) (x0:(List Int)) (x1:(List Int)):A0 (A0j k x0 x1) (C6f (A5j k) x0 x1):=by
 show A0 (All.exact_mulWords.f k x0 x1) _
 unfold All.exact_mulWords.f;unfold C6f;(try simp only [A5j,A5b,M5,S7,N0,All.integer_zero.f,All.exact_stepAt.f,All.S24.f0,All.S24.f1,All.rd_T24,All.z24]);exact BR
theorem D5I (k:Nat):B5 Tryz.prog (D0U (A0j k)):=
 B6 B7 HM A6I (es:=fun k=>B8E (M5 k) (S7 k) (N0 k)) (fun k=>fc ⟨D0z k,fc ⟨E0F k,fc ⟨C3G k,fz⟩⟩⟩) Tryz.func224 2 (by kernel_rfl) (fun s=>rfl) (fun k=>C0p (A5j k) (A5b k)) (fc ⟨fun s=>rfl,fc ⟨fun s=>rfl,fz⟩⟩) (fun k s0=> .cons (by kernel_rfl) (by kernel_rfl) (fun s r h=>(F3U (A5j k) (A5b k) (M5 k) (S7 k) (N0 k) s0 s).trans (E8b k s.1.1 s.1.2.1 s.1.2.2.1 s.1.2.2.2.1 s.2.1 r h)) (.cons (by kernel_rfl) (by kernel_rfl) (fun s r h=>(E1A (A5j k) (A5b k) (M5 k) (S7 k) (N0 k) s0 s).trans (F1i k s.1.1 s.1.2.1 s.1.2.2.1 s.1.2.2.2.1 s.1.2.2.2.2.1 s.1.2.2.2.2.2.1 s.1.2.2.2.2.2.2.1 s.1.2.2.2.2.2.2.2.1 s.1.2.2.2.2.2.2.2.2.1 s.1.2.2.2.2.2.2.2.2.2.1 s.2.1 r h)) (.nil))) (F:=fun k s=>A0j k s.1.1 s.1.2.1) (fun k s r h=>(E4o (A5j k) (A5b k) (M5 k) (S7 k) (N0 k) s).trans (E2Z k s.1.1 s.1.2.1 r h)) k
theorem E6w (k:Nat) (x0:ByteArray) (x1:ByteArray):A0 (V7 k x0 x1) (C9Z (H1 k) (A0j k) (J5 k) x0 x1):=by
 show A0 (All.exact_NatMul.f k x0 x1) _
 unfold All.exact_NatMul.f;unfold C9Z;(try simp only [H1,A0j,J5,All.integer_zero.f,All.exact_stepAt.f,All.S24.f0,All.S24.f1,All.rd_T24,All.z24]);exact BR
theorem C3w (k:Nat):B5 Tryz.prog (B9F (V7 k)):=
 B6 B7 HM B7X (es:=fun k=>D4z (H1 k) (A0j k) (J5 k)) (fun k=>fc ⟨A8S k,fc ⟨D5I k,fc ⟨B2e k,fz⟩⟩⟩) Tryz.func186 0 (by kernel_rfl) (fun s=>rfl) (fun k=>[]) (fz) (fun k s0=> .nil) (F:=fun k s=>V7 k s.1.1 s.1.2.1) (fun k s r h=>(F4d (H1 k) (A0j k) (J5 k) s).trans (E6w k s.1.1 s.1.2.1 r h)) k
theorem F1I (k:Nat) (x0:Bool) (x1:ByteArray):A0 (K6 k x0 x1) (C8S x0 x1):=by
 show A0 (All.exact_IntMake.f x0 x1) _
 unfold All.exact_IntMake.f;unfold C8S;(try simp only [All.integer_zero.f,All.exact_stepAt.f,All.S24.f0,All.S24.f1,All.rd_T24,All.z24]);exact BR
theorem B0K (k:Nat):B5 Tryz.prog (A9e (K6 k)):=
 B6 B7 HM B7F (es:=fun k=>[]) (fun k=>fz) Tryz.func192 0 (by kernel_rfl) (fun s=>rfl) (fun k=>[]) (fz) (fun k s0=> .nil) (F:=fun k s=>K6 k s.1.1 s.1.2.1) (fun k s r h=>(E8c s).trans (F1I k s.1.1 s.1.2.1 r h)) k
theorem F5M (k:Nat) (x0:TI) (x1:TI):A0 (A3Z k x0 x1) (C3U (V7 k) (K6 k) x0 x1):=by
 show A0 (All.exact_IntMul.f k x0.1 x0.2 x1.1 x1.2) _
 unfold All.exact_IntMul.f;unfold C3U;(try simp only [V7,K6,All.integer_zero.f,All.exact_stepAt.f,All.S24.f0,All.S24.f1,All.rd_T24,All.z24]);exact BR
theorem E3W (k:Nat):B5 Tryz.prog (D9q (A3Z k)):=
 B6 B7 HM B8d (es:=fun k=>D5Q (V7 k) (K6 k)) (fun k=>fc ⟨C3w k,fc ⟨B0K k,fz⟩⟩) Tryz.func184 0 (by kernel_rfl) (fun s=>rfl) (fun k=>[]) (fz) (fun k s0=> .nil) (F:=fun k s=>A3Z k s.1.1 s.1.2.1) (fun k s r h=>(F2W (V7 k) (K6 k) s).trans (F5M k s.1.1 s.1.2.1 r h)) k
theorem F5X (k:Nat) (x0:ByteArray) (x1:ByteArray):A0 (A4g k x0 x1) (C9N (H1 k) (J5 k) (A0l k) x0 x1):=by
 show A0 (All.exact_NatDivMod.f k x0 x1) _
 unfold All.exact_NatDivMod.f;unfold C9N;(try simp only [H1,J5,A0l,All.integer_zero.f,All.exact_stepAt.f,All.S24.f0,All.S24.f1,All.rd_T24,All.z24]);exact BR
theorem F4Y (k:Nat):B5 Tryz.prog (D5j (A4g k)):=
 B6 B7 HM B9G (es:=fun k=>D8I (H1 k) (J5 k) (A0l k)) (fun k=>fc ⟨A8S k,fc ⟨B2e k,fc ⟨D4o k,fz⟩⟩⟩) Tryz.func222 0 (by kernel_rfl) (fun s=>rfl) (fun k=>[]) (fz) (fun k s0=> .nil) (F:=fun k s=>A4g k s.1.1 s.1.2.1) (fun k s r h=>(F3Y (H1 k) (J5 k) (A0l k) s).trans (F5X k s.1.1 s.1.2.1 r h)) k
theorem F3x (k:Nat) (x0:TI) (x1:TI):A0 (b6 k x0 x1) (B4b (K6 k) (U6 k) (A4g k) x0 x1):=A0.refl _
theorem D5M (k:Nat):B5 Tryz.prog (C6U (b6 k)):=
 B6 B7 HM B9r (es:=fun k=>D9J (K6 k) (U6 k) (A4g k)) (fun k=>fc ⟨B0K k,fc ⟨D4D k,fc ⟨F4Y k,fz⟩⟩⟩) Tryz.func185 0 (by kernel_rfl) (fun s=>rfl) (fun k=>[]) (fz) (fun k s0=> .nil) (F:=fun k s=>b6 k s.1.1 s.1.2.1) (fun k s r h=>(E6i (K6 k) (U6 k) (A4g k) s).trans (F3x k s.1.1 s.1.2.1 r h)) k
theorem F1t (k:Nat) (x0:TQ) (x1:TQ):A0 (F3 k x0 x1) (B0O (T4 k) (A3Z k) (b6 k) (V7 k) x0 x1):=A0.refl _
theorem B3U (k:Nat):B5 Tryz.prog (B2F (F3 k)):=
 B6 B7 HM C1A (es:=fun k=>D3G (T4 k) (A3Z k) (b6 k) (V7 k)) (fun k=>fc ⟨C9i k,fc ⟨E3W k,fc ⟨D5M k,fc ⟨C3w k,fz⟩⟩⟩⟩) Tryz.func142 0 (by kernel_rfl) (fun s=>rfl) (fun k=>[]) (fz) (fun k s0=> .nil) (F:=fun k s=>F3 k s.1.1 s.1.2.1) (fun k s r h=>(E5t (T4 k) (A3Z k) (b6 k) (V7 k) s).trans (F1t k s.1.1 s.1.2.1 r h)) k
noncomputable abbrev A8J (k:Nat) (x1:Int) (x5:(List Int)) (x6:(List Int)):Option A0r:=All.exact_NatPow.l0 k x1 x5 x6
theorem F7Z (k:Nat) (x1:Int) (x5:(List Int)) (x6:(List Int)):A0 (All.exact_NatPow.l0 (k+1) x1 x5 x6) (C7w (A8J k) (H1 k) (A0j k) x1 x5 x6):=by rw [All.exact_NatPow.l0];unfold C7w;(try simp only [A8J,H1,A0j,J5,All.integer_zero.f,All.exact_stepAt.f,All.S24.f0,All.S24.f1,All.rd_T24,All.z24]);exact BR
theorem E5H (k:Nat) (x0:ByteArray) (x1:Int):A0 (A3J k x0 x1) (C8x (A8J k) (J5 k) x0 x1):=by
 show A0 (All.exact_NatPow.f k x0 x1) _
 unfold All.exact_NatPow.f;unfold C8x;(try simp only [A8J,H1,A0j,J5,All.integer_zero.f,All.exact_stepAt.f,All.S24.f0,All.S24.f1,All.rd_T24,All.z24]);exact BR
theorem E0E (k:Nat):B5 Tryz.prog (C2H (A3J k)):=
 B6 B7 HM B0s (es:=fun k=>D0s (H1 k) (A0j k) (J5 k)) (fun k=>fc ⟨A8S k,fc ⟨D5I k,fc ⟨B2e k,fz⟩⟩⟩) Tryz.func188 1 (by kernel_rfl) (fun s=>rfl) (fun k=>C1p (A8J k)) (fc ⟨fun s=>rfl,fz⟩) (fun k s0=> .cons (by kernel_rfl) (by kernel_rfl) (fun s r h=>(F3G (A8J k) (H1 k) (A0j k) (J5 k) s0 s).trans (F7Z k s.1.1 s.1.2.1 s.1.2.2.1 r h)) (.nil)) (F:=fun k s=>A3J k s.1.1 s.1.2.1) (fun k s r h=>(E9h (A8J k) (H1 k) (A0j k) (J5 k) s).trans (E5H k s.1.1 s.1.2.1 r h)) k
theorem E8B (k:Nat) (x0:TI) (x1:Int):A0 (A9X k x0 x1) (C2w (A3J k) (K6 k) x0 x1):=A0.refl _
theorem E7F (k:Nat):B5 Tryz.prog (D3g (A9X k)):=
 B6 B7 HM B9d (es:=fun k=>D1g (A3J k) (K6 k)) (fun k=>fc ⟨E0E k,fc ⟨B0K k,fz⟩⟩) Tryz.func187 0 (by kernel_rfl) (fun s=>rfl) (fun k=>[]) (fz) (fun k s0=> .nil) (F:=fun k s=>A9X k s.1.1 s.1.2.1) (fun k s r h=>(E5U (A3J k) (K6 k) s).trans (E8B k s.1.1 s.1.2.1 r h)) k
theorem E3a (k:Nat) (x0:TQ) (x1:Int):A0 (A6H k x0 x1) (D1F (A9X k) (A3J k) x0 x1):=A0.refl _
theorem E0c (k:Nat):B5 Tryz.prog (D8u (A6H k)):=
 B6 B7 HM B9E (es:=fun k=>D6o (A9X k) (A3J k)) (fun k=>fc ⟨E7F k,fc ⟨E0E k,fz⟩⟩) Tryz.func143 0 (by kernel_rfl) (fun s=>rfl) (fun k=>[]) (fz) (fun k s0=> .nil) (F:=fun k s=>A6H k s.1.1 s.1.2.1) (fun k s r h=>(E5s (A9X k) (A3J k) s).trans (E3a k s.1.1 s.1.2.1 r h)) k
theorem F1j (k:Nat) (x0:TI):A0 (A7K k x0) (D1D (K6 k) x0):=by
 show A0 (All.exact_IntNeg.f x0.1 x0.2) _
 unfold All.exact_IntNeg.f;unfold D1D;(try simp only [K6,All.integer_zero.f,All.exact_stepAt.f,All.S24.f0,All.S24.f1,All.rd_T24,All.z24]);exact BR
theorem E2v (k:Nat):B5 Tryz.prog (D6A (A7K k)):=
 B6 B7 HM B9K (es:=fun k=>D2N (K6 k)) (fun k=>fc ⟨B0K k,fz⟩) Tryz.func190 0 (by kernel_rfl) (fun s=>rfl) (fun k=>[]) (fz) (fun k s0=> .nil) (F:=fun k s=>A7K k s.1.1) (fun k s r h=>(E5Z (K6 k) s).trans (F1j k s.1.1 r h)) k
theorem E1v (k:Nat) (x0:TQ):A0 (w7 k x0) (B6j (A7K k) x0):=A0.refl _
theorem D6C (k:Nat):B5 Tryz.prog (C1y (w7 k)):=
 B6 B7 HM B7C (es:=fun k=>D6T (A7K k)) (fun k=>fc ⟨E2v k,fz⟩) Tryz.func145 0 (by kernel_rfl) (fun s=>rfl) (fun k=>[]) (fz) (fun k s0=> .nil) (F:=fun k s=>w7 k s.1.1) (fun k s r h=>(E1r (A7K k) s).trans (E1v k s.1.1 r h)) k
noncomputable abbrev A7t (k:Nat) (x8:Int) (x27:Int) (x28:Int) (x5:(List Int)) (x6:(List Int)) (x7:(List Int)):Option A3V:=All.exact_NatAdd.l0 k x5 x6 x7 x8 x27 x28
theorem F7o (k:Nat) (x8:Int) (x27:Int) (x28:Int) (x5:(List Int)) (x6:(List Int)) (x7:(List Int)):A0 (All.exact_NatAdd.l0 (k+1) x5 x6 x7 x8 x27 x28) (C2F (A7t k) (H1 k) (N0 k) x8 x27 x28 x5 x6 x7):=by
 rw [All.exact_NatAdd.l0]
 unfold C2F
 (try simp only [A7t,H1,J5,N0,All.integer_zero.f,All.exact_stepAt.f,All.S24.f0,All.S24.f1,All.rd_T24,All.z24])
 (try simp only [F1,List.take_append_drop,List.drop_length,List.append_nil,Int.zero_sub,Int.toNat_natCast,Int.reduceToNat,Int.zero_add,List.take_zero,List.nil_append,List.append_assoc,List.length_set,W8,List.take_left,I0,bne,H2,decide_not,H3,if_true,if_false,Bool.false_eq_true,m4,t7,List.drop_zero,List.take_length,H7,F6,l7,C4,ite_not,Bool.and_eq_true,Bool.or_eq_true,Bool.not_eq_true',G9,Bool.not_eq_false',beq_iff_eq,decide_eq_true_eq,H4,G8,G6,ne_eq,H5,List.toList_toArray])
 repeat' first
 | (with_reducible refine A0.trans ((All.exact_NatAdd.mono_l k).1 _ _) ?_;rw [All.exact_NatAdd.j0];(try simp only [F1,if_true,if_false,decide_eq_true_eq,Bool.false_eq_true,decide_not,ite_not,bne,H2,beq_iff_eq,Bool.not_eq_true',G9,H5,List.toList_toArray,G8,G6,Bool.and_eq_true,Bool.or_eq_true,H4,H3,H7,All.integer_zero.f,F6,Int.toNat_natCast,Int.reduceToNat,Int.zero_sub,I0]))
 | (with_reducible exact A0.none _)
 | (with_reducible exact A0.refl _)
 | (with_reducible refine A0.posR (by with_reducible assumption) ?_)
 | (with_reducible refine A0.negR (by with_reducible assumption) ?_)
 | (with_reducible refine A0.bindR (by with_reducible assumption) ?_)
 | (with_reducible refine A0.posL (by with_reducible assumption) ?_)
 | (with_reducible refine A0.negL (by with_reducible assumption) ?_)
 | (with_reducible refine A0.iteL (fun _=>?_) (fun _=>?_))
 | (with_reducible refine A0.bindK (by with_reducible assumption) ?_)
 | (with_reducible refine A0.bindL (fun _ _=>?_))
 | (refine A0.posR (by first|decide|exact Int.le_refl _|omega|assumption) ?_)
 | (refine A0.negR (by first|decide|omega) ?_)
theorem E4r (k:Nat) (x0:ByteArray) (x1:ByteArray):A0 (A9V k x0 x1) (C2X (A7t k) (J5 k) x0 x1):=by
 show A0 (All.exact_NatAdd.f k x0 x1) _
 unfold All.exact_NatAdd.f
 unfold C2X
 (try simp only [A7t,H1,J5,N0,All.integer_zero.f,All.exact_stepAt.f,All.S24.f0,All.S24.f1,All.rd_T24,All.z24])
 (try simp only [F1,List.take_append_drop,List.drop_length,List.append_nil,Int.zero_sub,Int.toNat_natCast,Int.reduceToNat,Int.zero_add,List.take_zero,List.nil_append,List.append_assoc,List.length_set,W8,List.take_left,I0,bne,H2,decide_not,H3,if_true,if_false,Bool.false_eq_true,m4,t7,List.drop_zero,List.take_length,H7,F6,l7,C4,ite_not,Bool.and_eq_true,Bool.or_eq_true,Bool.not_eq_true',G9,Bool.not_eq_false',beq_iff_eq,decide_eq_true_eq,H4,G8,G6,ne_eq,H5,List.toList_toArray])
 repeat' first
 | (with_reducible refine A0.trans ((All.exact_NatAdd.mono_l k).1 _ _) ?_;rw [All.exact_NatAdd.j0];(try simp only [F1,if_true,if_false,decide_eq_true_eq,Bool.false_eq_true,decide_not,ite_not,bne,H2,beq_iff_eq,Bool.not_eq_true',G9,H5,List.toList_toArray,G8,G6,Bool.and_eq_true,Bool.or_eq_true,H4,H3,H7,All.integer_zero.f,F6,Int.toNat_natCast,Int.reduceToNat,Int.zero_sub,I0]))
 | (with_reducible exact A0.none _)
 | (with_reducible exact A0.refl _)
 | (with_reducible refine A0.posR (by with_reducible assumption) ?_)
 | (with_reducible refine A0.negR (by with_reducible assumption) ?_)
 | (with_reducible refine A0.bindR (by with_reducible assumption) ?_)
 | (with_reducible refine A0.posL (by with_reducible assumption) ?_)
 | (with_reducible refine A0.negL (by with_reducible assumption) ?_)
 | (with_reducible refine A0.iteL (fun _=>?_) (fun _=>?_))
 | (with_reducible refine A0.bindK (by with_reducible assumption) ?_)
 | (with_reducible refine A0.bindL (fun _ _=>?_))
 | (refine A0.posR (by first|decide|exact Int.le_refl _|omega|assumption) ?_)
 | (refine A0.negR (by first|decide|omega) ?_)
theorem E0O (k:Nat):B5 Tryz.prog (D4I (A9V k)):=
 B6 B7 HM B1V (es:=fun k=>C8Q (H1 k) (J5 k) (N0 k)) (fun k=>fc ⟨A8S k,fc ⟨B2e k,fc ⟨C3G k,fz⟩⟩⟩) Tryz.func226 1 (by kernel_rfl) (fun s=>rfl) (fun k=>C4B (A7t k)) (fc ⟨fun s=>rfl,fz⟩) (fun k s0=> .cons (by kernel_rfl) (by kernel_rfl) (fun s r h=>(F2N (A7t k) (H1 k) (J5 k) (N0 k) s0 s).trans (F7o k s.1.1 s.1.2.1 s.1.2.2.1 s.2.1 s.2.2.1 s.2.2.2.1 r h)) (.nil)) (F:=fun k s=>A9V k s.1.1 s.1.2.1) (fun k s r h=>(E7W (A7t k) (H1 k) (J5 k) (N0 k) s).trans (E4r k s.1.1 s.1.2.1 r h)) k
theorem E5z (k:Nat) (x0:ByteArray) (x1:ByteArray):A0 (A8T k x0 x1) (C5m x0 x1):=by
 show A0 (All.exact_NatCmp.f k x0 x1) _
 unfold All.exact_NatCmp.f
 unfold C5m
 (try simp only [All.integer_zero.f,All.exact_stepAt.f,All.S24.f0,All.S24.f1,All.rd_T24,All.z24])
 (try simp only [F1,List.take_append_drop,List.drop_length,List.append_nil,Int.zero_sub,Int.toNat_natCast,Int.reduceToNat,Int.zero_add,List.take_zero,List.nil_append,List.append_assoc,List.length_set,W8,List.take_left,I0,bne,H2,decide_not,H3,if_true,if_false,Bool.false_eq_true,m4,t7,List.drop_zero,List.take_length,H7,F6,l7,C4,ite_not,Bool.and_eq_true,Bool.or_eq_true,Bool.not_eq_true',G9,Bool.not_eq_false',beq_iff_eq,decide_eq_true_eq,H4,G8,G6,ne_eq,H5,List.toList_toArray])
 repeat' first
 | (with_reducible refine A0.trans ((All.exact_NatCmp.mono_l k) _ _ _) ?_;rw [All.exact_NatCmp.j0];(try simp only [F1,if_true,if_false,decide_eq_true_eq,Bool.false_eq_true,decide_not,ite_not,bne,H2,beq_iff_eq,Bool.not_eq_true',G9,H5,List.toList_toArray,G8,G6,Bool.and_eq_true,Bool.or_eq_true,H4,H3,H7,All.integer_zero.f,F6,Int.toNat_natCast,Int.reduceToNat,Int.zero_sub,I0]))
 | (with_reducible exact A0.none _)
 | (with_reducible exact A0.refl _)
 | (with_reducible refine A0.posR (by with_reducible assumption) ?_)
 | (with_reducible refine A0.negR (by with_reducible assumption) ?_)
 | (with_reducible refine A0.bindR (by with_reducible assumption) ?_)
 | (with_reducible refine A0.posL (by with_reducible assumption) ?_)
 | (with_reducible refine A0.negL (by with_reducible assumption) ?_)
 | (with_reducible refine A0.iteL (fun _=>?_) (fun _=>?_))
 | (with_reducible refine A0.bindK (by with_reducible assumption) ?_)
 | (with_reducible refine A0.bindL (fun _ _=>?_))
 | (refine A0.posR (by first|decide|exact Int.le_refl _|omega|assumption) ?_)
 | (refine A0.negR (by first|decide|omega) ?_)
theorem E1N (k:Nat):B5 Tryz.prog (D1h (A8T k)):=
 B6 B7 HM C0f (es:=fun k=>[]) (fun k=>fz) Tryz.func227 0 (by kernel_rfl) (fun s=>rfl) (fun k=>[]) (fz) (fun k s0=> .nil) (F:=fun k s=>A8T k s.1.1 s.1.2.1) (fun k s r h=>(E4U s).trans (E5z k s.1.1 s.1.2.1 r h)) k
noncomputable abbrev A8Y (k:Nat) (x7:Int) (x15:Int) (x16:Int) (x5:(List Int)) (x6:(List Int)):Option A2k:=All.exact_NatSub.l0 k x5 x6 x7 x15 x16
theorem F2y (k:Nat) (x7:Int) (x15:Int) (x16:Int) (x5:(List Int)) (x6:(List Int)):A0 (All.exact_NatSub.l0 (k+1) x5 x6 x7 x15 x16) (C4U (A8Y k) (H1 k) (c7 k) x7 x15 x16 x5 x6):=by rw [All.exact_NatSub.l0];unfold C4U;(try simp only [A8Y,H1,J5,c7,All.integer_zero.f,All.exact_stepAt.f,All.S24.f0,All.S24.f1,All.rd_T24,All.z24]);exact BR
theorem E3B (k:Nat) (x0:ByteArray) (x1:ByteArray):A0 (A8q k x0 x1) (D0q (A8Y k) (J5 k) x0 x1):=by
 show A0 (All.exact_NatSub.f k x0 x1) _
 unfold All.exact_NatSub.f;unfold D0q;(try simp only [A8Y,H1,J5,c7,All.integer_zero.f,All.exact_stepAt.f,All.S24.f0,All.S24.f1,All.rd_T24,All.z24]);exact BR
theorem E9Z (k:Nat):B5 Tryz.prog (D6y (A8q k)):=
 B6 B7 HM B1j (es:=fun k=>C4j (H1 k) (J5 k) (c7 k)) (fun k=>fc ⟨A8S k,fc ⟨B2e k,fc ⟨D3J k,fz⟩⟩⟩) Tryz.func228 1 (by kernel_rfl) (fun s=>rfl) (fun k=>D1E (A8Y k)) (fc ⟨fun s=>rfl,fz⟩) (fun k s0=> .cons (by kernel_rfl) (by kernel_rfl) (fun s r h=>(E9C (A8Y k) (H1 k) (J5 k) (c7 k) s0 s).trans (F2y k s.1.1 s.1.2.1 s.1.2.2.1 s.2.1 s.2.2.1 r h)) (.nil)) (F:=fun k s=>A8q k s.1.1 s.1.2.1) (fun k s r h=>(F2v (A8Y k) (H1 k) (J5 k) (c7 k) s).trans (E3B k s.1.1 s.1.2.1 r h)) k
theorem F8V (k:Nat) (x0:TI) (x1:TI):A0 (A3l k x0 x1) (C3f (K6 k) (A9V k) (A8T k) (A8q k) x0 x1):=by
 show A0 (All.exact_IntAdd.f k x0.1 x0.2 x1.1 x1.2) _
 unfold All.exact_IntAdd.f;unfold C3f;(try simp only [K6,A9V,A8T,A8q,All.integer_zero.f,All.exact_stepAt.f,All.S24.f0,All.S24.f1,All.rd_T24,All.z24]);exact BR
theorem E6K (k:Nat):B5 Tryz.prog (D6h (A3l k)):=
 B6 B7 HM B6U (es:=fun k=>D9t (K6 k) (A9V k) (A8T k) (A8q k)) (fun k=>fc ⟨B0K k,fc ⟨E0O k,fc ⟨E1N k,fc ⟨E9Z k,fz⟩⟩⟩⟩) Tryz.func191 0 (by kernel_rfl) (fun s=>rfl) (fun k=>[]) (fz) (fun k s0=> .nil) (F:=fun k s=>A3l k s.1.1 s.1.2.1) (fun k s r h=>(F1w (K6 k) (A9V k) (A8T k) (A8q k) s).trans (F8V k s.1.1 s.1.2.1 r h)) k
theorem E8X (k:Nat) (x0:TQ) (x1:TQ):A0 (L3 k x0 x1) (B3C (T4 k) (b6 k) (V7 k) (A3l k) (K6 k) x0 x1):=A0.refl _
theorem C7Z (k:Nat):B5 Tryz.prog (C0m (L3 k)):=
 B6 B7 HM B8A (es:=fun k=>D2R (T4 k) (b6 k) (V7 k) (A3l k) (K6 k)) (fun k=>fc ⟨C9i k,fc ⟨D5M k,fc ⟨C3w k,fc ⟨E6K k,fc ⟨B0K k,fz⟩⟩⟩⟩⟩) Tryz.func148 0 (by kernel_rfl) (fun s=>rfl) (fun k=>[]) (fz) (fun k s0=> .nil) (F:=fun k s=>L3 k s.1.1 s.1.2.1) (fun k s r h=>(E8u (T4 k) (b6 k) (V7 k) (A3l k) (K6 k) s).trans (E8X k s.1.1 s.1.2.1 r h)) k
theorem b88 (k:Nat) (x0:TQ) (x1:TQ):A0 (N2 k x0 x1) (B88 (w7 k) (L3 k) x0 x1):=A0.refl _
theorem C9U (k:Nat):B5 Tryz.prog (B6K (N2 k)):=
 B6 B7 HM D88 (es:=fun k=>D2d (w7 k) (L3 k)) (fun k=>fc ⟨D6C k,fc ⟨C7Z k,fz⟩⟩) Tryz.func88 0 (by kernel_rfl) (fun s=>rfl) (fun k=>[]) (fz) (fun k s0=> .nil) (F:=fun k s=>N2 k s.1.1 s.1.2.1) (fun k s r h=>(e88 (w7 k) (L3 k) s).trans (b88 k s.1.1 s.1.2.1 r h)) k
theorem E3c (k:Nat) (x0:TP) (x3:Int):A0 (A0M (k+1) x0 x3) (A7Z (A0M k) (J3 k) x0 x3):=by rw [A0M];exact A0.refl _
theorem b92 (k:Nat) (x0:TP):A0 (E5 k x0) (B92 (A0M k) x0):=A0.refl _
theorem A8D (k:Nat):B5 Tryz.prog (A7D (E5 k)):=
 B6 B7 HM D92 (es:=fun k=>C4q (J3 k)) (fun k=>fc ⟨B8g k,fz⟩) Tryz.func92 1 (by kernel_rfl) (fun s=>rfl) (fun k=>C4g (A0M k)) (fc ⟨fun s=>rfl,fz⟩) (fun k s0=> .cons (by kernel_rfl) (by kernel_rfl) (fun s r h=>(E0s (A0M k) (J3 k) s0 s).trans (E3c k s.1.1 s.1.2.1 r h)) (.nil)) (F:=fun k s=>E5 k s.1.1) (fun k s r h=>(e92 (A0M k) (J3 k) s).trans (b92 k s.1.1 r h)) k
theorem E7O (k:Nat) (x0:TQ):A0 (Q7 k x0) (B6J x0):=A0.refl _
theorem C9e (k:Nat):B5 Tryz.prog (B8w (Q7 k)):=
 B6 B7 HM B6y (es:=fun k=>[]) (fun k=>fz) Tryz.func147 0 (by kernel_rfl) (fun s=>rfl) (fun k=>[]) (fz) (fun k s0=> .nil) (F:=fun k s=>Q7 k s.1.1) (fun k s r h=>(F6e s).trans (E7O k s.1.1 r h)) k
theorem F4r (k:Nat) (x0:TP):A0 (C6G k x0) (C3x x0):=A0.refl _
theorem F6o (k:Nat):B5 Tryz.prog (F4V (C6G k)):=
 B6 B7 HM C0P (es:=fun k=>[]) (fun k=>fz) Tryz.func189 0 (by kernel_rfl) (fun s=>rfl) (fun k=>[]) (fz) (fun k s0=> .nil) (F:=fun k s=>C6G k s.1.1) (fun k s r h=>(E3r s).trans (F4r k s.1.1 r h)) k
theorem E0R (k:Nat) (x0:TP):A0 (C5Y k x0) (A6j x0):=A0.refl _
theorem E7B (k:Nat):B5 Tryz.prog (E5W (C5Y k)):=
 B6 B7 HM B6p (es:=fun k=>[]) (fun k=>fz) Tryz.func189 0 (by kernel_rfl) (fun s=>rfl) (fun k=>[]) (fz) (fun k s0=> .nil) (F:=fun k s=>C5Y k s.1.1) (fun k s r h=>(F2J s).trans (E0R k s.1.1 r h)) k
theorem E9q (k:Nat):B5 Tryz.prog (D7N (A4F k)):=E3Y (F6o k) (E7B k) (fun s r h=>⟨h,fun hx=>by
 have e:A6j []=some []:=by kernel_rfl
 have h':A6j s.1.1=some r:=h
 rw [hx,e]at h'
 cases h'
 rfl⟩)
theorem F0Q (k:Nat) (x0:TP) (x1:TP) (x7:Int) (x30:Int) (x31:Int) (x6:TP) (x8:TP):A0 (v4 (k+1) x0 x1 x7 x30 x31 x6 x8) (A8V (v4 k) (T5 k) (E2 k) (Q7 k) x0 x1 x7 x30 x31 x6 x8):=by rw [v4];exact A0.refl _
theorem E6m (k:Nat) (x1:TP) (x7:Int) (x11:Int) (x6:TP) (x8:TP) (x10:TQ):A0 (T5 (k+1) x1 x7 x11 x6 x8 x10) (A9c (T5 k) (m7 k) (E5 k) (F3 k) (J3 k) x1 x7 x11 x6 x8 x10):=by rw [T5];exact A0.refl _
theorem E7p (k:Nat) (x1:TP) (x7:Int) (x11:Int) (x69:Int) (x70:Int) (x6:TP) (x8:TP) (x10:TQ) (x12:TQ):A0 (m7 (k+1) x1 x7 x11 x69 x70 x6 x8 x10 x12) (A8X (T5 k) (m7 k) (N2 k) (F3 k) x1 x7 x11 x69 x70 x6 x8 x10 x12):=by rw [m7];exact A0.refl _
theorem F4K (k:Nat) (x0:TP) (x1:TP):A0 (X2 k x0 x1) (B5D (v4 k) (A4F k) x0 x1):=A0.refl _
theorem C5q (k:Nat):B5 Tryz.prog (B9y (X2 k)):=
 B6 B7 HM A3a (es:=fun k=>B4P (N2 k) (E2 k) (E5 k) (F3 k) (Q7 k) (J3 k) (A4F k)) (fun k=>fc ⟨C9U k,fc ⟨A9b k,fc ⟨A8D k,fc ⟨B3U k,fc ⟨C9e k,fc ⟨B8g k,fc ⟨E9q k,fz⟩⟩⟩⟩⟩⟩⟩) Tryz.func144 3 (by kernel_rfl) (fun s=>rfl) (fun k=>B3g (v4 k) (T5 k) (m7 k)) (fc ⟨fun s=>rfl,fc ⟨fun s=>rfl,fc ⟨fun s=>rfl,fz⟩⟩⟩) (fun k s0=> .cons (by kernel_rfl) (by kernel_rfl) (fun s r h=>(F6W (v4 k) (T5 k) (m7 k) (N2 k) (E2 k) (E5 k) (F3 k) (Q7 k) (J3 k) (A4F k) s0 s).trans (F0Q k s.1.1 s.1.2.1 s.1.2.2.1 s.1.2.2.2.1 s.1.2.2.2.2.1 s.2.1 s.2.2.1 r h)) (.cons (by kernel_rfl) (by kernel_rfl) (fun s r h=>(E2y (v4 k) (T5 k) (m7 k) (N2 k) (E2 k) (E5 k) (F3 k) (Q7 k) (J3 k) (A4F k) s0 s).trans (E6m k s.1.1 s.1.2.1 s.1.2.2.1 s.2.1 s.2.2.1 s.2.2.2.1 r h)) (.cons (by kernel_rfl) (by kernel_rfl) (fun s r h=>(E2X (v4 k) (T5 k) (m7 k) (N2 k) (E2 k) (E5 k) (F3 k) (Q7 k) (J3 k) (A4F k) s0 s).trans (E7p k s.1.1 s.1.2.1 s.1.2.2.1 s.1.2.2.2.1 s.1.2.2.2.2.1 s.2.1 s.2.2.1 s.2.2.2.1 s.2.2.2.2.1 r h)) (.nil)))) (F:=fun k s=>X2 k s.1.1 s.1.2.1) (fun k s r h=>(E9s (v4 k) (T5 k) (m7 k) (N2 k) (E2 k) (E5 k) (F3 k) (Q7 k) (J3 k) (A4F k) s).trans (F4K k s.1.1 s.1.2.1 r h)) k
theorem E9S (k:Nat) (x0:TP) (x1:TP) (x4:TQ) (x5:TQ):A0 (A5M (k+1) x0 x1 x4 x5) (D0H (A5M k) (E2 k) (F3 k) (A6H k) (X2 k) (w7 k) x0 x1 x4 x5):=by rw [A5M];exact A0.refl _
theorem b84 (k:Nat) (x0:TP) (x1:TP):A0 (A3O k x0 x1) (B84 (A5M k) (E2 k) x0 x1):=A0.refl _
theorem F6P (k:Nat):B5 Tryz.prog (D2i (A3O k)):=
 B6 B7 HM D84 (es:=fun k=>C5Z (E2 k) (F3 k) (A6H k) (X2 k) (w7 k)) (fun k=>fc ⟨A9b k,fc ⟨B3U k,fc ⟨E0c k,fc ⟨C5q k,fc ⟨D6C k,fz⟩⟩⟩⟩⟩) Tryz.func84 1 (by kernel_rfl) (fun s=>rfl) (fun k=>C5N (A5M k)) (fc ⟨fun s=>rfl,fz⟩) (fun k s0=> .cons (by kernel_rfl) (by kernel_rfl) (fun s r h=>(F6Q (A5M k) (E2 k) (F3 k) (A6H k) (X2 k) (w7 k) s0 s).trans (E9S k s.1.1 s.1.2.1 s.2.1 s.2.2.1 r h)) (.nil)) (F:=fun k s=>A3O k s.1.1 s.1.2.1) (fun k s r h=>(e84 (A5M k) (E2 k) (F3 k) (A6H k) (X2 k) (w7 k) s).trans (b84 k s.1.1 s.1.2.1 r h)) k
theorem E2s (k:Nat) (x0:TP) (x1:Int):A0 (m9 k x0 x1) (B4l (E2 k) x0 x1):=A0.refl _
theorem D8k (k:Nat):B5 Tryz.prog (C4S (m9 k)):=
 B6 B7 HM B8Z (es:=fun k=>D6I (E2 k)) (fun k=>fc ⟨A9b k,fz⟩) Tryz.func151 0 (by kernel_rfl) (fun s=>rfl) (fun k=>[]) (fz) (fun k s0=> .nil) (F:=fun k s=>m9 k s.1.1 s.1.2.1) (fun k s r h=>(E9p (E2 k) s).trans (E2s k s.1.1 s.1.2.1 r h)) k
theorem E0t (k:Nat) (x0:TP) (x1:TP) (x14:Int) (x15:Int) (x5:TP):A0 (A0R (k+1) x0 x1 x14 x15 x5) (A8I (A0R k) (E5 k) (L3 k) (m9 k) x0 x1 x14 x15 x5):=by rw [A0R];exact A0.refl _
theorem b90 (k:Nat) (x0:TP) (x1:TP):A0 (J6 k x0 x1) (B90 (A0R k) x0 x1):=A0.refl _
theorem B6n (k:Nat):B5 Tryz.prog (B5H (J6 k)):=
 B6 B7 HM D90 (es:=fun k=>D0x (E5 k) (L3 k) (m9 k)) (fun k=>fc ⟨A8D k,fc ⟨C7Z k,fc ⟨D8k k,fz⟩⟩⟩) Tryz.func90 1 (by kernel_rfl) (fun s=>rfl) (fun k=>C9y (A0R k)) (fc ⟨fun s=>rfl,fz⟩) (fun k s0=> .cons (by kernel_rfl) (by kernel_rfl) (fun s r h=>(E0k (A0R k) (E5 k) (L3 k) (m9 k) s0 s).trans (E0t k s.1.1 s.1.2.1 s.1.2.2.1 s.1.2.2.2.1 s.2.1 r h)) (.nil)) (F:=fun k s=>J6 k s.1.1 s.1.2.1) (fun k s r h=>(e90 (A0R k) (E5 k) (L3 k) (m9 k) s).trans (b90 k s.1.1 s.1.2.1 r h)) k
theorem F3C (k:Nat) (x0:TP) (x1:TP) (x27:Int) (x28:Int) (x5:TP):A0 (q9 (k+1) x0 x1 x27 x28 x5) (A9g (q9 k) (U8 k) (E2 k) x0 x1 x27 x28 x5):=by rw [q9];exact A0.refl _
theorem F8j (k:Nat) (x1:TP) (x36:TP) (x37:Int) (x38:Int) (x5:TP):A0 (U8 (k+1) x1 x36 x37 x38 x5) (A7i (U8 k) (o4 k) (E5 k) (J3 k) x1 x36 x37 x38 x5):=by rw [U8];exact A0.refl _
theorem E9z (k:Nat) (x1:TP) (x7:Int) (x36:TP) (x37:Int) (x38:Int) (x45:TP) (x46:Int) (x47:Int) (x5:TP) (x8:TQ):A0 (o4 (k+1) x1 x7 x36 x37 x38 x45 x46 x47 x5 x8) (A8j (U8 k) (o4 k) (F3 k) (L3 k) x1 x7 x36 x37 x38 x45 x46 x47 x5 x8):=by rw [o4];exact A0.refl _
theorem b91 (k:Nat) (x0:TP) (x1:TP):A0 (L5 k x0 x1) (B91 (q9 k) x0 x1):=A0.refl _
theorem B6O (k:Nat):B5 Tryz.prog (B3r (L5 k)):=
 B6 B7 HM D91 (es:=fun k=>B4d (E2 k) (E5 k) (F3 k) (L3 k) (J3 k)) (fun k=>fc ⟨A9b k,fc ⟨A8D k,fc ⟨B3U k,fc ⟨C7Z k,fc ⟨B8g k,fz⟩⟩⟩⟩⟩) Tryz.func91 3 (by kernel_rfl) (fun s=>rfl) (fun k=>B4K (q9 k) (U8 k) (o4 k)) (fc ⟨fun s=>rfl,fc ⟨fun s=>rfl,fc ⟨fun s=>rfl,fz⟩⟩⟩) (fun k s0=> .cons (by kernel_rfl) (by kernel_rfl) (fun s r h=>(E8s (q9 k) (U8 k) (o4 k) (E2 k) (E5 k) (F3 k) (L3 k) (J3 k) s0 s).trans (F3C k s.1.1 s.1.2.1 s.1.2.2.1 s.1.2.2.2.1 s.2.1 r h)) (.cons (by kernel_rfl) (by kernel_rfl) (fun s r h=>(E0J (q9 k) (U8 k) (o4 k) (E2 k) (E5 k) (F3 k) (L3 k) (J3 k) s0 s).trans (F8j k s.1.1 s.1.2.1 s.1.2.2.1 s.1.2.2.2.1 s.2.1 r h)) (.cons (by kernel_rfl) (by kernel_rfl) (fun s r h=>(F8T (q9 k) (U8 k) (o4 k) (E2 k) (E5 k) (F3 k) (L3 k) (J3 k) s0 s).trans (E9z k s.1.1 s.1.2.1 s.1.2.2.1 s.1.2.2.2.1 s.1.2.2.2.2.1 s.1.2.2.2.2.2.1 s.1.2.2.2.2.2.2.1 s.1.2.2.2.2.2.2.2.1 s.2.1 s.2.2.1 r h)) (.nil)))) (F:=fun k s=>L5 k s.1.1 s.1.2.1) (fun k s r h=>(e91 (q9 k) (U8 k) (o4 k) (E2 k) (E5 k) (F3 k) (L3 k) (J3 k) s).trans (b91 k s.1.1 s.1.2.1 r h)) k
theorem F0B (k:Nat) (x0:TP) (x1:TP):A0 (O1 k x0 x1) (B5C (X2 k) x0 x1):=A0.refl _
theorem C4D (k:Nat):B5 Tryz.prog (B7t (O1 k)):=
 B6 B7 HM C0z (es:=fun k=>D6O (X2 k)) (fun k=>fc ⟨C5q k,fz⟩) Tryz.func165 0 (by kernel_rfl) (fun s=>rfl) (fun k=>[]) (fz) (fun k s0=> .nil) (F:=fun k s=>O1 k s.1.1 s.1.2.1) (fun k s r h=>(E0u (X2 k) s).trans (F0B k s.1.1 s.1.2.1 r h)) k
theorem E3o (k:Nat) (x0:TP) (x1:TP) (x2:TP):A0 (O8 k x0 x1 x2) (B3I (L5 k) (O1 k) x0 x1 x2):=A0.refl _
theorem D0N (k:Nat):B5 Tryz.prog (B9e (O8 k)):=
 B6 B7 HM B7Z (es:=fun k=>D4t (L5 k) (O1 k)) (fun k=>fc ⟨B6O k,fc ⟨C4D k,fz⟩⟩) Tryz.func146 0 (by kernel_rfl) (fun s=>rfl) (fun k=>[]) (fz) (fun k s0=> .nil) (F:=fun k s=>O8 k s.1.1 s.1.2.1 s.1.2.2.1) (fun k s r h=>(E9d (L5 k) (O1 k) s).trans (E3o k s.1.1 s.1.2.1 s.1.2.2.1 r h)) k
theorem F2C (k:Nat) (x1:TF) (x2:TP) (x7:TP) (x8:Int) (x3:TP):A0 (A1N (k+1) x1 x2 x7 x8 x3) (A8N (A1N k) (J6 k) (O8 k) x1 x2 x7 x8 x3):=by rw [A1N];exact A0.refl _
theorem b85 (k:Nat) (x0:TP) (x1:TF) (x2:TP):A0 (Z0 k x0 x1 x2) (B85 (A1N k) x0 x1 x2):=A0.refl _
theorem D6P (k:Nat):B5 Tryz.prog (C2K (Z0 k)):=
 B6 B7 HM D85 (es:=fun k=>D1R (J6 k) (O8 k)) (fun k=>fc ⟨B6n k,fc ⟨D0N k,fz⟩⟩) Tryz.func85 1 (by kernel_rfl) (fun s=>rfl) (fun k=>C8U (A1N k)) (fc ⟨fun s=>rfl,fz⟩) (fun k s0=> .cons (by kernel_rfl) (by kernel_rfl) (fun s r h=>(E5k (A1N k) (J6 k) (O8 k) s0 s).trans (F2C k s.1.1 s.1.2.1 s.1.2.2.1 s.1.2.2.2.1 s.2.1 r h)) (.nil)) (F:=fun k s=>Z0 k s.1.1 s.1.2.1 s.1.2.2.1) (fun k s r h=>(e85 (A1N k) (J6 k) (O8 k) s).trans (b85 k s.1.1 s.1.2.1 s.1.2.2.1 r h)) k
theorem F5Q (k:Nat) (x9:(List Int)) (x10:Int) (x11:Int) (x3:TP):A0 (A5e (k+1) x9 x10 x11 x3) (C3m (A5e k) (E2 k) (E5 k) x9 x10 x11 x3):=by rw [A5e];exact A0.refl _
theorem b86 (k:Nat) (x0:(List Int)):A0 (L9 k x0) (B86 (A5e k) x0):=A0.refl _
theorem C0V (k:Nat):B5 Tryz.prog (B4f (L9 k)):=
 B6 B7 HM D86 (es:=fun k=>C4o (E2 k) (E5 k)) (fun k=>fc ⟨A9b k,fc ⟨A8D k,fz⟩⟩) Tryz.func86 1 (by kernel_rfl) (fun s=>rfl) (fun k=>C6m (A5e k)) (fc ⟨fun s=>rfl,fz⟩) (fun k s0=> .cons (by kernel_rfl) (by kernel_rfl) (fun s r h=>(E5v (A5e k) (E2 k) (E5 k) s0 s).trans (F5Q k s.1.1 s.1.2.1 s.1.2.2.1 s.2.1 r h)) (.nil)) (F:=fun k s=>L9 k s.1.1) (fun k s r h=>(e86 (A5e k) (E2 k) (E5 k) s).trans (b86 k s.1.1 r h)) k
theorem b87 (k:Nat) (x0:TQ) (x1:TQ):A0 (A3F k x0 x1) (B87 (F3 k) (Q7 k) x0 x1):=A0.refl _
theorem E6C (k:Nat):B5 Tryz.prog (D1s (A3F k)):=
 B6 B7 HM D87 (es:=fun k=>D6W (F3 k) (Q7 k)) (fun k=>fc ⟨B3U k,fc ⟨C9e k,fz⟩⟩) Tryz.func87 0 (by kernel_rfl) (fun s=>rfl) (fun k=>[]) (fz) (fun k s0=> .nil) (F:=fun k s=>A3F k s.1.1 s.1.2.1) (fun k s r h=>(e87 (F3 k) (Q7 k) s).trans (b87 k s.1.1 s.1.2.1 r h)) k
theorem E4d (k:Nat) (x0:TQ):A0 (A3C k x0) (B3P x0):=A0.refl _
theorem F2O (k:Nat):B5 Tryz.prog (D3l (A3C k)):=
 B6 B7 HM C0T (es:=fun k=>[]) (fun k=>fz) Tryz.func154 0 (by kernel_rfl) (fun s=>rfl) (fun k=>[]) (fz) (fun k s0=> .nil) (F:=fun k s=>A3C k s.1.1) (fun k s r h=>(F4N s).trans (E4d k s.1.1 r h)) k
theorem F3J (k:Nat) (x0:TP) (x7:Int) (x8:Int):A0 (A0d (k+1) x0 x7 x8) (A8x (A0d k) (A3C k) x0 x7 x8):=by rw [A0d];exact A0.refl _
theorem E3z (k:Nat) (x0:TP):A0 (A5w k x0) (B4V (A0d k) x0):=A0.refl _
theorem F3f (k:Nat):B5 Tryz.prog (D2O (A5w k)):=
 B6 B7 HM B2w (es:=fun k=>C5s (A3C k)) (fun k=>fc ⟨F2O k,fz⟩) Tryz.func194 1 (by kernel_rfl) (fun s=>rfl) (fun k=>C1b (A0d k)) (fc ⟨fun s=>rfl,fz⟩) (fun k s0=> .cons (by kernel_rfl) (by kernel_rfl) (fun s r h=>(E2K (A0d k) (A3C k) s0 s).trans (F3J k s.1.1 s.1.2.1 s.1.2.2.1 r h)) (.nil)) (F:=fun k s=>A5w k s.1.1) (fun k s r h=>(E1k (A0d k) (A3C k) s).trans (E3z k s.1.1 r h)) k
theorem F7c (k:Nat) (x0:TP):A0 (A1r k x0) (C1U (A5w k) x0):=A0.refl _
theorem D7s (k:Nat):B5 Tryz.prog (C3J (A1r k)):=
 B6 B7 HM C0M (es:=fun k=>D8L (A5w k)) (fun k=>fc ⟨F3f k,fz⟩) Tryz.func153 0 (by kernel_rfl) (fun s=>rfl) (fun k=>[]) (fz) (fun k s0=> .nil) (F:=fun k s=>A1r k s.1.1) (fun k s r h=>(E9X (A5w k) s).trans (F7c k s.1.1 r h)) k
theorem b93 (k:Nat) (x0:TP):A0 (A2q k x0) (B93 (A1r k) x0):=A0.refl _
theorem E4v (k:Nat):B5 Tryz.prog (D7X (A2q k)):=
 B6 B7 HM D93 (es:=fun k=>D4h (A1r k)) (fun k=>fc ⟨D7s k,fz⟩) Tryz.func93 0 (by kernel_rfl) (fun s=>rfl) (fun k=>[]) (fz) (fun k s0=> .nil) (F:=fun k s=>A2q k s.1.1) (fun k s r h=>(e93 (A1r k) s).trans (b93 k s.1.1 r h)) k
theorem F0l (k:Nat) (x1:TF) (x7:Int) (x38:Int) (x39:Int) (x2:TP) (x8:TP):A0 (A1u (k+1) x1 x7 x38 x39 x2 x8) (C5P (A1u k) (A1o k) (A3O k) (Z0 k) (L9 k) x1 x7 x38 x39 x2 x8):=by rw [A1u];exact A0.refl _
theorem E6S (k:Nat) (x7:Int) (x10:Int) (x8:TP):A0 (A1o (k+1) x7 x10 x8) (D0n (A1z k) (A1y k) x7 x10 x8):=by rw [A1o];exact A0.refl _
theorem F7D (k:Nat) (x7:Int) (x10:Int) (x11:Int) (x8:TP):A0 (A1z (k+1) x7 x10 x11 x8) (C4c (A1o k) (A1z k) (A3F k) (N2 k) (E2 k) x7 x10 x11 x8):=by rw [A1z];exact A0.refl _
theorem F0w (k:Nat) (x12:TP) (x13:Int) (x8:TP):A0 (A1y (k+1) x12 x13 x8) (C8T (A1y k) (L9 k) (J6 k) (L5 k) (E5 k) (A2q k) x12 x13 x8):=by rw [A1y];exact A0.refl _
theorem b17 (k:Nat) (x0:TP) (x1:TF):A0 (A8k k x0 x1) (B17 (A1u k) (H9 k) x0 x1):=A0.refl _
theorem F8A (k:Nat):B5 Tryz.prog (D8A (A8k k)):=
 B6 B7 HM D17 (es:=fun k=>B0M (H9 k) (A3O k) (Z0 k) (L9 k) (A3F k) (N2 k) (E2 k) (J6 k) (L5 k) (E5 k) (A2q k)) (fun k=>fc ⟨B2s k,fc ⟨F6P k,fc ⟨D6P k,fc ⟨C0V k,fc ⟨E6C k,fc ⟨C9U k,fc ⟨A9b k,fc ⟨B6n k,fc ⟨B6O k,fc ⟨A8D k,fc ⟨E4v k,fz⟩⟩⟩⟩⟩⟩⟩⟩⟩⟩⟩) Tryz.func17 4 (by kernel_rfl) (fun s=>rfl) (fun k=>B0Y (A1u k) (A1o k) (A1z k) (A1y k)) (fc ⟨fun s=>rfl,fc ⟨fun s=>rfl,fc ⟨fun s=>rfl,fc ⟨fun s=>rfl,fz⟩⟩⟩⟩) (fun k s0=> .cons (by kernel_rfl) (by kernel_rfl) (fun s r h=>(E4f (A1u k) (A1o k) (A1z k) (A1y k) (H9 k) (A3O k) (Z0 k) (L9 k) (A3F k) (N2 k) (E2 k) (J6 k) (L5 k) (E5 k) (A2q k) s0 s).trans (F0l k s.1.1 s.1.2.1 s.1.2.2.1 s.1.2.2.2.1 s.2.1 s.2.2.1 r h)) (.cons (by kernel_rfl) (by kernel_rfl) (fun s r h=>(F3o (A1u k) (A1o k) (A1z k) (A1y k) (H9 k) (A3O k) (Z0 k) (L9 k) (A3F k) (N2 k) (E2 k) (J6 k) (L5 k) (E5 k) (A2q k) s0 s).trans (E6S k s.1.1 s.1.2.1 s.2.1 r h)) (.cons (by kernel_rfl) (by kernel_rfl) (fun s r h=>(F2n (A1u k) (A1o k) (A1z k) (A1y k) (H9 k) (A3O k) (Z0 k) (L9 k) (A3F k) (N2 k) (E2 k) (J6 k) (L5 k) (E5 k) (A2q k) s0 s).trans (F7D k s.1.1 s.1.2.1 s.1.2.2.1 s.2.1 r h)) (.cons (by kernel_rfl) (by kernel_rfl) (fun s r h=>(E8H (A1u k) (A1o k) (A1z k) (A1y k) (H9 k) (A3O k) (Z0 k) (L9 k) (A3F k) (N2 k) (E2 k) (J6 k) (L5 k) (E5 k) (A2q k) s0 s).trans (F0w k s.1.1 s.1.2.1 s.2.1 r h)) (.nil))))) (F:=fun k s=>A8k k s.1.1 s.1.2.1) (fun k s r h=>(e17 (A1u k) (A1o k) (A1z k) (A1y k) (H9 k) (A3O k) (Z0 k) (L9 k) (A3F k) (N2 k) (E2 k) (J6 k) (L5 k) (E5 k) (A2q k) s).trans (b17 k s.1.1 s.1.2.1 r h)) k
theorem E3Z (k:Nat) (x0:TP) (x1:TP) (x12:Int) (x13:Int):A0 (A0V (k+1) x0 x1 x12 x13) (A9F (A0V k) x0 x1 x12 x13):=by rw [A0V];exact A0.refl _
theorem b18 (k:Nat) (x0:TP) (x1:TP):A0 (W5 k x0 x1) (B18 (A0V k) x0 x1):=A0.refl _
theorem C7L (k:Nat):B5 Tryz.prog (C0t (W5 k)):=
 B6 B7 HM D18 (es:=fun k=>[]) (fun k=>fz) Tryz.func18 1 (by kernel_rfl) (fun s=>rfl) (fun k=>D0A (A0V k)) (fc ⟨fun s=>rfl,fz⟩) (fun k s0=> .cons (by kernel_rfl) (by kernel_rfl) (fun s r h=>(F4W (A0V k) s0 s).trans (E3Z k s.1.1 s.1.2.1 s.1.2.2.1 s.1.2.2.2.1 r h)) (.nil)) (F:=fun k s=>W5 k s.1.1 s.1.2.1) (fun k s r h=>(e18 (A0V k) s).trans (b18 k s.1.1 s.1.2.1 r h)) k
theorem E3I (k:Nat) (x0:TP) (x3:Int):A0 (A1T (k+1) x0 x3) (A8A (A1T k) (S1 k) x0 x3):=by rw [A1T];exact A0.refl _
theorem b48 (k:Nat) (x0:TP):A0 (F7 k x0) (B48 (A1T k) x0):=A0.refl _
theorem B3B (k:Nat):B5 Tryz.prog (A8U (F7 k)):=
 B6 B7 HM D48 (es:=fun k=>C9F (S1 k)) (fun k=>fc ⟨D3Z k,fz⟩) Tryz.func48 1 (by kernel_rfl) (fun s=>rfl) (fun k=>C7T (A1T k)) (fc ⟨fun s=>rfl,fz⟩) (fun k s0=> .cons (by kernel_rfl) (by kernel_rfl) (fun s r h=>(E3x (A1T k) (S1 k) s0 s).trans (E3I k s.1.1 s.1.2.1 r h)) (.nil)) (F:=fun k s=>F7 k s.1.1) (fun k s r h=>(e48 (A1T k) (S1 k) s).trans (b48 k s.1.1 r h)) k
theorem E8J (k:Nat) (x6:(List Int)) (x7:Int) (x8:Int) (x3:TP):A0 (A4m (k+1) x6 x7 x8 x3) (C8R (A4m k) (F7 k) (E9 k) x6 x7 x8 x3):=by rw [A4m];exact A0.refl _
theorem b22 (k:Nat) (x0:(List Int)):A0 (o3 k x0) (B22 (A4m k) x0):=A0.refl _
theorem D3N (k:Nat):B5 Tryz.prog (C8z (o3 k)):=
 B6 B7 HM D22 (es:=fun k=>C2k (F7 k) (E9 k)) (fun k=>fc ⟨B3B k,fc ⟨A9E k,fz⟩⟩) Tryz.func22 1 (by kernel_rfl) (fun s=>rfl) (fun k=>C1r (A4m k)) (fc ⟨fun s=>rfl,fz⟩) (fun k s0=> .cons (by kernel_rfl) (by kernel_rfl) (fun s r h=>(E2i (A4m k) (F7 k) (E9 k) s0 s).trans (E8J k s.1.1 s.1.2.1 s.1.2.2.1 s.2.1 r h)) (.nil)) (F:=fun k s=>o3 k s.1.1) (fun k s r h=>(e22 (A4m k) (F7 k) (E9 k) s).trans (b22 k s.1.1 r h)) k
theorem F8D (k:Nat) (x11:TP) (x12:Int) (x13:Int) (x3:TQ) (x5:TP):A0 (A4b (k+1) x11 x12 x13 x3 x5) (C7D (A4b k) (E5 k) (F3 k) x11 x12 x13 x3 x5):=by rw [A4b];exact A0.refl _
theorem F7G (k:Nat) (x0:TP) (x1:TQ):A0 (A6a k x0 x1) (C9P (A4b k) x0 x1):=A0.refl _
theorem F4m (k:Nat):B5 Tryz.prog (D4G (A6a k)):=
 B6 B7 HM B1h (es:=fun k=>C5L (E5 k) (F3 k)) (fun k=>fc ⟨A8D k,fc ⟨B3U k,fz⟩⟩) Tryz.func137 1 (by kernel_rfl) (fun s=>rfl) (fun k=>C3M (A4b k)) (fc ⟨fun s=>rfl,fz⟩) (fun k s0=> .cons (by kernel_rfl) (by kernel_rfl) (fun s r h=>(E0p (A4b k) (E5 k) (F3 k) s0 s).trans (F8D k s.1.1 s.1.2.1 s.1.2.2.1 s.2.1 s.2.2.1 r h)) (.nil)) (F:=fun k s=>A6a k s.1.1 s.1.2.1) (fun k s r h=>(E6v (A4b k) (E5 k) (F3 k) s).trans (F7G k s.1.1 s.1.2.1 r h)) k
theorem E9Y (k:Nat) (x0:TP) (x1:TP) (x14:Int) (x15:Int) (x5:TP):A0 (A5i (k+1) x0 x1 x14 x15 x5) (C3q (A5i k) (N2 k) (E5 k) (m9 k) x0 x1 x14 x15 x5):=by rw [A5i];exact A0.refl _
theorem F4F (k:Nat) (x0:TP) (x1:TP):A0 (A0B k x0 x1) (C6Z (A5i k) x0 x1):=A0.refl _
theorem D2W (k:Nat):B5 Tryz.prog (C9q (A0B k)):=
 B6 B7 HM B2p (es:=fun k=>C8u (N2 k) (E5 k) (m9 k)) (fun k=>fc ⟨C9U k,fc ⟨A8D k,fc ⟨D8k k,fz⟩⟩⟩) Tryz.func166 1 (by kernel_rfl) (fun s=>rfl) (fun k=>C8C (A5i k)) (fc ⟨fun s=>rfl,fz⟩) (fun k s0=> .cons (by kernel_rfl) (by kernel_rfl) (fun s r h=>(F5D (A5i k) (N2 k) (E5 k) (m9 k) s0 s).trans (E9Y k s.1.1 s.1.2.1 s.1.2.2.1 s.1.2.2.2.1 s.2.1 r h)) (.nil)) (F:=fun k s=>A0B k s.1.1 s.1.2.1) (fun k s r h=>(F7A (A5i k) (N2 k) (E5 k) (m9 k) s).trans (F4F k s.1.1 s.1.2.1 r h)) k
theorem F6G (k:Nat) (x0:TP) (x6:TP) (x7:TP) (x8:TP) (x9:TP):A0 (A5V (k+1) x0 x6 x7 x8 x9) (C7V (A5V k) (L5 k) (A6a k) (X2 k) (Q7 k) (O1 k) (A0B k) x0 x6 x7 x8 x9):=by rw [A5V];exact A0.refl _
theorem E3D (k:Nat) (x0:TP) (x1:TP):A0 (A2X k x0 x1) (C6v (A5V k) (L9 k) (O1 k) x0 x1):=A0.refl _
theorem D9y (k:Nat):B5 Tryz.prog (D1H (A2X k)):=
 B6 B7 HM B0e (es:=fun k=>C4V (L9 k) (L5 k) (A6a k) (X2 k) (Q7 k) (O1 k) (A0B k)) (fun k=>fc ⟨C0V k,fc ⟨B6O k,fc ⟨F4m k,fc ⟨C5q k,fc ⟨C9e k,fc ⟨C4D k,fc ⟨D2W k,fz⟩⟩⟩⟩⟩⟩⟩) Tryz.func106 1 (by kernel_rfl) (fun s=>rfl) (fun k=>C6d (A5V k)) (fc ⟨fun s=>rfl,fz⟩) (fun k s0=> .cons (by kernel_rfl) (by kernel_rfl) (fun s r h=>(E1p (A5V k) (L9 k) (L5 k) (A6a k) (X2 k) (Q7 k) (O1 k) (A0B k) s0 s).trans (F6G k s.1.1 s.1.2.1 s.1.2.2.1 s.1.2.2.2.1 s.1.2.2.2.2.1 r h)) (.nil)) (F:=fun k s=>A2X k s.1.1 s.1.2.1) (fun k s r h=>(F2U (A5V k) (L9 k) (L5 k) (A6a k) (X2 k) (Q7 k) (O1 k) (A0B k) s).trans (E3D k s.1.1 s.1.2.1 r h)) k
theorem E8Z (k:Nat) (x0:TF) (x3:Int):A0 (A0b (k+1) x0 x3) (A8u (A0b k) x0 x3):=by rw [A0b];exact A0.refl _
theorem E2S (k:Nat) (x0:TF):A0 (E8 k x0) (B3u (A0b k) x0):=A0.refl _
theorem B5j (k:Nat):B5 Tryz.prog (B1A (E8 k)):=
 B6 B7 HM B2f (es:=fun k=>[]) (fun k=>fz) Tryz.func122 1 (by kernel_rfl) (fun s=>rfl) (fun k=>C7l (A0b k)) (fc ⟨fun s=>rfl,fz⟩) (fun k s0=> .cons (by kernel_rfl) (by kernel_rfl) (fun s r h=>(E7I (A0b k) s0 s).trans (E8Z k s.1.1 s.1.2.1 r h)) (.nil)) (F:=fun k s=>E8 k s.1.1) (fun k s r h=>(E6p (A0b k) s).trans (E2S k s.1.1 r h)) k
theorem F8L (k:Nat) (x2:TF) (x3:TP) (x11:Int) (x13:Int) (x4:TP) (x10:TF) (x12:TF):A0 (A1e (k+1) x2 x3 x11 x13 x4 x10 x12) (C6k (A1e k) (A4J k) (E8 k) (O8 k) x2 x3 x11 x13 x4 x10 x12):=by rw [A1e];exact A0.refl _
theorem E5L (k:Nat) (x2:TF) (x3:TP) (x11:Int) (x13:Int) (x14:TP) (x60:Int) (x61:Int) (x4:TP) (x10:TF) (x12:TF):A0 (A4J (k+1) x2 x3 x11 x13 x14 x60 x61 x4 x10 x12) (C6O (A1e k) (A4J k) (O8 k) (A0B k) x2 x3 x11 x13 x14 x60 x61 x4 x10 x12):=by rw [A4J];exact A0.refl _
theorem F3T (k:Nat) (x0:TP) (x1:TF) (x2:TF) (x3:TP):A0 (A1s k x0 x1 x2 x3) (D0m (A1e k) (E8 k) x0 x1 x2 x3):=A0.refl _
theorem D3H (k:Nat):B5 Tryz.prog (C1a (A1s k)):=
 B6 B7 HM A6D (es:=fun k=>B6w (E8 k) (O8 k) (A0B k)) (fun k=>fc ⟨B5j k,fc ⟨D0N k,fc ⟨D2W k,fz⟩⟩⟩) Tryz.func107 2 (by kernel_rfl) (fun s=>rfl) (fun k=>C0N (A1e k) (A4J k)) (fc ⟨fun s=>rfl,fc ⟨fun s=>rfl,fz⟩⟩) (fun k s0=> .cons (by kernel_rfl) (by kernel_rfl) (fun s r h=>(F0C (A1e k) (A4J k) (E8 k) (O8 k) (A0B k) s0 s).trans (F8L k s.1.1 s.1.2.1 s.1.2.2.1 s.1.2.2.2.1 s.2.1 s.2.2.1 s.2.2.2.1 r h)) (.cons (by kernel_rfl) (by kernel_rfl) (fun s r h=>(F2l (A1e k) (A4J k) (E8 k) (O8 k) (A0B k) s0 s).trans (E5L k s.1.1 s.1.2.1 s.1.2.2.1 s.1.2.2.2.1 s.1.2.2.2.2.1 s.1.2.2.2.2.2.1 s.1.2.2.2.2.2.2.1 s.2.1 s.2.2.1 s.2.2.2.1 r h)) (.nil))) (F:=fun k s=>A1s k s.1.1 s.1.2.1 s.1.2.2.1 s.1.2.2.2.1) (fun k s r h=>(E2e (A1e k) (A4J k) (E8 k) (O8 k) (A0B k) s).trans (F3T k s.1.1 s.1.2.1 s.1.2.2.1 s.1.2.2.2.1 r h)) k
theorem E6f (k:Nat) (x0:TP):A0 (A0A k x0) (C8h (A1r k) x0):=A0.refl _
theorem F2o (k:Nat):B5 Tryz.prog (D2y (A0A k)):=
 B6 B7 HM B6d (es:=fun k=>D7K (A1r k)) (fun k=>fc ⟨D7s k,fz⟩) Tryz.func176 0 (by kernel_rfl) (fun s=>rfl) (fun k=>[]) (fz) (fun k s0=> .nil) (F:=fun k s=>A0A k s.1.1) (fun k s r h=>(F6k (A1r k) s).trans (E6f k s.1.1 r h)) k
theorem F0x (k:Nat) (x0:TF) (x7:Int) (x8:Int):A0 (f8 (k+1) x0 x7 x8) (A2Z (f8 k) (A0A k) x0 x7 x8):=by rw [f8];exact A0.refl _
theorem F6D (k:Nat) (x0:TF):A0 (A4y k x0) (A9C (f8 k) x0):=A0.refl _
theorem F4j (k:Nat):B5 Tryz.prog (D3c (A4y k)):=
 B6 B7 HM B0g (es:=fun k=>C1Q (A0A k)) (fun k=>fc ⟨F2o k,fz⟩) Tryz.func216 1 (by kernel_rfl) (fun s=>rfl) (fun k=>C6P (f8 k)) (fc ⟨fun s=>rfl,fz⟩) (fun k s0=> .cons (by kernel_rfl) (by kernel_rfl) (fun s r h=>(F5f (f8 k) (A0A k) s0 s).trans (F0x k s.1.1 s.1.2.1 s.1.2.2.1 r h)) (.nil)) (F:=fun k s=>A4y k s.1.1) (fun k s r h=>(E1C (f8 k) (A0A k) s).trans (F6D k s.1.1 r h)) k
theorem F8m (k:Nat) (x0:TF):A0 (A9W k x0) (C4w (A4y k) x0):=A0.refl _
theorem E2A (k:Nat):B5 Tryz.prog (D3r (A9W k)):=
 B6 B7 HM B7G (es:=fun k=>D7k (A4y k)) (fun k=>fc ⟨F4j k,fz⟩) Tryz.func175 0 (by kernel_rfl) (fun s=>rfl) (fun k=>[]) (fz) (fun k s0=> .nil) (F:=fun k s=>A9W k s.1.1) (fun k s r h=>(E6s (A4y k) s).trans (F8m k s.1.1 r h)) k
theorem E1w (k:Nat) (x0:TF):A0 (k8 k x0) (C4x (A9W k) x0):=A0.refl _
theorem D5S (k:Nat):B5 Tryz.prog (C2r (k8 k)):=
 B6 B7 HM C0I (es:=fun k=>D2p (A9W k)) (fun k=>fc ⟨E2A k,fz⟩) Tryz.func128 0 (by kernel_rfl) (fun s=>rfl) (fun k=>[]) (fz) (fun k s0=> .nil) (F:=fun k s=>k8 k s.1.1) (fun k s r h=>(F6x (A9W k) s).trans (E1w k s.1.1 r h)) k
theorem F8C (k:Nat) (x0:TF):A0 (R3 k x0) (B3L (k8 k) x0):=A0.refl _
theorem C0x (k:Nat):B5 Tryz.prog (B3j (R3 k)):=
 B6 B7 HM B6q (es:=fun k=>D7R (k8 k)) (fun k=>fc ⟨D5S k,fz⟩) Tryz.func108 0 (by kernel_rfl) (fun s=>rfl) (fun k=>[]) (fz) (fun k s0=> .nil) (F:=fun k s=>R3 k s.1.1) (fun k s r h=>(E4R (k8 k) s).trans (F8C k s.1.1 r h)) k
theorem b28 (k:Nat) (x0:TP) (x1:TF) (x2:TF):A0 (A8w k x0 x1 x2) (B28 (H9 k) (A2X k) (A1s k) (R3 k) x0 x1 x2):=A0.refl _
theorem F6I (k:Nat):B5 Tryz.prog (D5y (A8w k)):=
 B6 B7 HM D28 (es:=fun k=>D8z (H9 k) (A2X k) (A1s k) (R3 k)) (fun k=>fc ⟨B2s k,fc ⟨D9y k,fc ⟨D3H k,fc ⟨C0x k,fz⟩⟩⟩⟩) Tryz.func28 0 (by kernel_rfl) (fun s=>rfl) (fun k=>[]) (fz) (fun k s0=> .nil) (F:=fun k s=>A8w k s.1.1 s.1.2.1 s.1.2.2.1) (fun k s r h=>(e28 (H9 k) (A2X k) (A1s k) (R3 k) s).trans (b28 k s.1.1 s.1.2.1 s.1.2.2.1 r h)) k
theorem F3i (k:Nat) (x0:TF) (x1:TF) (x12:Int) (x13:Int):A0 (A1P (k+1) x0 x1 x12 x13) (A8o (A1P k) (W5 k) x0 x1 x12 x13):=by rw [A1P];exact A0.refl _
theorem b29 (k:Nat) (x0:TF) (x1:TF):A0 (V2 k x0 x1) (B29 (A1P k) x0 x1):=A0.refl _
theorem D0K (k:Nat):B5 Tryz.prog (C0i (V2 k)):=
 B6 B7 HM D29 (es:=fun k=>C4Z (W5 k)) (fun k=>fc ⟨C7L k,fz⟩) Tryz.func29 1 (by kernel_rfl) (fun s=>rfl) (fun k=>D1Q (A1P k)) (fc ⟨fun s=>rfl,fz⟩) (fun k s0=> .cons (by kernel_rfl) (by kernel_rfl) (fun s r h=>(F5h (A1P k) (W5 k) s0 s).trans (F3i k s.1.1 s.1.2.1 s.1.2.2.1 s.1.2.2.2.1 r h)) (.nil)) (F:=fun k s=>V2 k s.1.1 s.1.2.1) (fun k s r h=>(e29 (A1P k) (W5 k) s).trans (b29 k s.1.1 s.1.2.1 r h)) k
theorem F4L (k:Nat) (x2:TP) (x13:TF) (x14:Int) (x15:Int) (x3:TP) (x7:TF):A0 (A0c (k+1) x2 x13 x14 x15 x3 x7) (A7U (A0c k) (E8 k) (O8 k) x2 x13 x14 x15 x3 x7):=by rw [A0c];exact A0.refl _
theorem F3S (k:Nat) (x0:TP) (x1:TF) (x2:TP):A0 (A1v k x0 x1 x2) (B5m (A0c k) x0 x1 x2):=A0.refl _
theorem D5w (k:Nat):B5 Tryz.prog (C2O (A1v k)):=
 B6 B7 HM B0T (es:=fun k=>C7b (E8 k) (O8 k)) (fun k=>fc ⟨B5j k,fc ⟨D0N k,fz⟩⟩) Tryz.func131 1 (by kernel_rfl) (fun s=>rfl) (fun k=>C3R (A0c k)) (fc ⟨fun s=>rfl,fz⟩) (fun k s0=> .cons (by kernel_rfl) (by kernel_rfl) (fun s r h=>(F3V (A0c k) (E8 k) (O8 k) s0 s).trans (F4L k s.1.1 s.1.2.1 s.1.2.2.1 s.1.2.2.2.1 s.2.1 s.2.2.1 r h)) (.nil)) (F:=fun k s=>A1v k s.1.1 s.1.2.1 s.1.2.2.1) (fun k s r h=>(F8F (A0c k) (E8 k) (O8 k) s).trans (F3S k s.1.1 s.1.2.1 s.1.2.2.1 r h)) k
theorem F3p (k:Nat) (x0:TP) (x1:TF):A0 (A6V k x0 x1) (C3F (A2X k) (A1v k) x0 x1):=A0.refl _
theorem F5N (k:Nat):B5 Tryz.prog (D4k (A6V k)):=
 B6 B7 HM B6V (es:=fun k=>D3U (A2X k) (A1v k)) (fun k=>fc ⟨D9y k,fc ⟨D5w k,fz⟩⟩) Tryz.func110 0 (by kernel_rfl) (fun s=>rfl) (fun k=>[]) (fz) (fun k s0=> .nil) (F:=fun k s=>A6V k s.1.1 s.1.2.1) (fun k s r h=>(F5v (A2X k) (A1v k) s).trans (F3p k s.1.1 s.1.2.1 r h)) k
theorem F1r (k:Nat) (x0:TF):A0 (A8a k x0) (C3B x0):=A0.refl _
theorem E4W (k:Nat):B5 Tryz.prog (D5o (A8a k)):=
 B6 B7 HM B8K (es:=fun k=>[]) (fun k=>fz) Tryz.func112 0 (by kernel_rfl) (fun s=>rfl) (fun k=>[]) (fz) (fun k s0=> .nil) (F:=fun k s=>A8a k s.1.1) (fun k s r h=>(F2z s).trans (F1r k s.1.1 r h)) k
theorem E0M (k:Nat) (x0:(TF×Unit)):A0 (A7O k x0) (C3E (R3 k) (A8a k) x0):=A0.refl _
theorem F2I (k:Nat):B5 Tryz.prog (D1q (A7O k)):=
 B6 B7 HM C0Q (es:=fun k=>D6Y (R3 k) (A8a k)) (fun k=>fc ⟨C0x k,fc ⟨E4W k,fz⟩⟩) Tryz.func111 0 (by kernel_rfl) (fun s=>rfl) (fun k=>[]) (fz) (fun k s0=> .nil) (F:=fun k s=>A7O k s.1.1) (fun k s r h=>(E0f (R3 k) (A8a k) s).trans (E0M k s.1.1 r h)) k
theorem F2P (k:Nat) (x3:TP) (x9:(TF×TF)):A0 (A4j (k+1) x3 x9) (C3N (A4j k) (L9 k) (A1s k) (A6V k) (A7O k) x3 x9):=by rw [A4j];exact A0.refl _
theorem b31 (k:Nat) (x0:TP) (x1:TF) (x2:TF):A0 (A8p k x0 x1 x2) (B31 (A4j k) (H9 k) x0 x1 x2):=A0.refl _
theorem E0h (k:Nat):B5 Tryz.prog (D1Y (A8p k)):=
 B6 B7 HM D31 (es:=fun k=>D0V (H9 k) (L9 k) (A1s k) (A6V k) (A7O k)) (fun k=>fc ⟨B2s k,fc ⟨C0V k,fc ⟨D3H k,fc ⟨F5N k,fc ⟨F2I k,fz⟩⟩⟩⟩⟩) Tryz.func31 1 (by kernel_rfl) (fun s=>rfl) (fun k=>C2Y (A4j k)) (fc ⟨fun s=>rfl,fz⟩) (fun k s0=> .cons (by kernel_rfl) (by kernel_rfl) (fun s r h=>(E8I (A4j k) (H9 k) (L9 k) (A1s k) (A6V k) (A7O k) s0 s).trans (F2P k s.2.1 s.2.2.1 r h)) (.nil)) (F:=fun k s=>A8p k s.1.1 s.1.2.1 s.1.2.2.1) (fun k s r h=>(e31 (A4j k) (H9 k) (L9 k) (A1s k) (A6V k) (A7O k) s).trans (b31 k s.1.1 s.1.2.1 s.1.2.2.1 r h)) k
theorem E6P (k:Nat) (x0:TF) (x1:Int):A0 (A3Q k x0 x1) (B5I x0 x1):=A0.refl _
theorem E9F (k:Nat):B5 Tryz.prog (D2r (A3Q k)):=
 B6 B7 HM C0j (es:=fun k=>[]) (fun k=>fz) Tryz.func174 0 (by kernel_rfl) (fun s=>rfl) (fun k=>[]) (fz) (fun k s0=> .nil) (F:=fun k s=>A3Q k s.1.1 s.1.2.1) (fun k s r h=>(F8e s).trans (E6P k s.1.1 s.1.2.1 r h)) k
theorem E8d (k:Nat) (x0:TF) (x1:TF) (x14:Int) (x15:Int) (x5:TF):A0 (A0u (k+1) x0 x1 x14 x15 x5) (A7S (A0u k) (J6 k) (E8 k) (A3Q k) x0 x1 x14 x15 x5):=by rw [A0u];exact A0.refl _
theorem E6n (k:Nat) (x0:TF) (x1:TF):A0 (A2B k x0 x1) (B4O (A0u k) x0 x1):=A0.refl _
theorem E8O (k:Nat):B5 Tryz.prog (D3C (A2B k)):=
 B6 B7 HM B2n (es:=fun k=>C4C (J6 k) (E8 k) (A3Q k)) (fun k=>fc ⟨B6n k,fc ⟨B5j k,fc ⟨E9F k,fz⟩⟩⟩) Tryz.func126 1 (by kernel_rfl) (fun s=>rfl) (fun k=>D0O (A0u k)) (fc ⟨fun s=>rfl,fz⟩) (fun k s0=> .cons (by kernel_rfl) (by kernel_rfl) (fun s r h=>(F8I (A0u k) (J6 k) (E8 k) (A3Q k) s0 s).trans (E8d k s.1.1 s.1.2.1 s.1.2.2.1 s.1.2.2.2.1 s.2.1 r h)) (.nil)) (F:=fun k s=>A2B k s.1.1 s.1.2.1) (fun k s r h=>(F7B (A0u k) (J6 k) (E8 k) (A3Q k) s).trans (E6n k s.1.1 s.1.2.1 r h)) k
theorem F3F (k:Nat) (x2:TF) (x28:TF) (x29:Int) (x30:Int) (x3:TP) (x7:TF):A0 (u9 (k+1) x2 x28 x29 x30 x3 x7) (A7X (k9 k) (j3 k) x2 x28 x29 x30 x3 x7):=by rw [u9];exact A0.refl _
theorem F7r (k:Nat) (x2:TF) (x8:Int) (x9:TP) (x28:TF) (x29:Int) (x30:Int) (x35:TF) (x36:Int) (x37:Int) (x3:TP) (x7:TF):A0 (k9 (k+1) x2 x8 x9 x28 x29 x30 x35 x36 x37 x3 x7) (A8l (u9 k) (k9 k) (J6 k) (L5 k) x2 x8 x9 x28 x29 x30 x35 x36 x37 x3 x7):=by rw [k9];exact A0.refl _
theorem E2r (k:Nat) (x60:Int) (x61:Int) (x3:TP) (x7:TF):A0 (j3 (k+1) x60 x61 x3 x7) (A7P (j3 k) (E8 k) (O1 k) x60 x61 x3 x7):=by rw [j3];exact A0.refl _
theorem E1I (k:Nat) (x0:TP) (x1:TF) (x2:TF):A0 (A1c k x0 x1 x2) (B5F (u9 k) x0 x1 x2):=A0.refl _
theorem E7j (k:Nat):B5 Tryz.prog (D6x (A1c k)):=
 B6 B7 HM A4E (es:=fun k=>B3l (J6 k) (L5 k) (E8 k) (O1 k)) (fun k=>fc ⟨B6n k,fc ⟨B6O k,fc ⟨B5j k,fc ⟨C4D k,fz⟩⟩⟩⟩) Tryz.func127 3 (by kernel_rfl) (fun s=>rfl) (fun k=>B4m (u9 k) (k9 k) (j3 k)) (fc ⟨fun s=>rfl,fc ⟨fun s=>rfl,fc ⟨fun s=>rfl,fz⟩⟩⟩) (fun k s0=> .cons (by kernel_rfl) (by kernel_rfl) (fun s r h=>(F0I (u9 k) (k9 k) (j3 k) (J6 k) (L5 k) (E8 k) (O1 k) s0 s).trans (F3F k s.1.1 s.1.2.1 s.1.2.2.1 s.1.2.2.2.1 s.2.1 s.2.2.1 r h)) (.cons (by kernel_rfl) (by kernel_rfl) (fun s r h=>(E6Y (u9 k) (k9 k) (j3 k) (J6 k) (L5 k) (E8 k) (O1 k) s0 s).trans (F7r k s.1.1 s.1.2.1 s.1.2.2.1 s.1.2.2.2.1 s.1.2.2.2.2.1 s.1.2.2.2.2.2.1 s.1.2.2.2.2.2.2.1 s.1.2.2.2.2.2.2.2.1 s.1.2.2.2.2.2.2.2.2.1 s.2.1 s.2.2.1 r h)) (.cons (by kernel_rfl) (by kernel_rfl) (fun s r h=>(F4k (u9 k) (k9 k) (j3 k) (J6 k) (L5 k) (E8 k) (O1 k) s0 s).trans (E2r k s.1.1 s.1.2.1 s.2.1 s.2.2.1 r h)) (.nil)))) (F:=fun k s=>A1c k s.1.1 s.1.2.1 s.1.2.2.1) (fun k s r h=>(E8E (u9 k) (k9 k) (j3 k) (J6 k) (L5 k) (E8 k) (O1 k) s).trans (E1I k s.1.1 s.1.2.1 s.1.2.2.1 r h)) k
theorem E1E (k:Nat) (x1:TF) (x2:TP) (x4:TF) (x5:TF) (x6:Int):A0 (A1R (k+1) x1 x2 x4 x5 x6) (A7a (A1R k) (E8 k) (A2B k) (A1c k) x1 x2 x4 x5 x6):=by rw [A1R];exact A0.refl _
theorem E7x (k:Nat) (x0:TP) (x1:TF) (x2:TP):A0 (A5G k x0 x1 x2) (B4N (A1R k) (L9 k) (E8 k) x0 x1 x2):=A0.refl _
theorem E6Z (k:Nat):B5 Tryz.prog (D8f (A5G k)):=
 B6 B7 HM B0f (es:=fun k=>C2n (L9 k) (E8 k) (A2B k) (A1c k)) (fun k=>fc ⟨C0V k,fc ⟨B5j k,fc ⟨E8O k,fc ⟨E7j k,fz⟩⟩⟩⟩) Tryz.func125 1 (by kernel_rfl) (fun s=>rfl) (fun k=>C9w (A1R k)) (fc ⟨fun s=>rfl,fz⟩) (fun k s0=> .cons (by kernel_rfl) (by kernel_rfl) (fun s r h=>(E2a (A1R k) (L9 k) (E8 k) (A2B k) (A1c k) s0 s).trans (E1E k s.1.1 s.1.2.1 s.1.2.2.1 s.1.2.2.2.1 s.1.2.2.2.2.1 r h)) (.nil)) (F:=fun k s=>A5G k s.1.1 s.1.2.1 s.1.2.2.1) (fun k s r h=>(F7d (A1R k) (L9 k) (E8 k) (A2B k) (A1c k) s).trans (E7x k s.1.1 s.1.2.1 s.1.2.2.1 r h)) k
theorem F2s (k:Nat) (x0:(TP×TF×TP×Unit)):A0 (A3f k x0) (B6E (R3 k) (A5G k) x0):=A0.refl _
theorem E6x (k:Nat):B5 Tryz.prog (D5D (A3f k)):=
 B6 B7 HM B6t (es:=fun k=>D1j (R3 k) (A5G k)) (fun k=>fc ⟨C0x k,fc ⟨E6Z k,fz⟩⟩) Tryz.func111 0 (by kernel_rfl) (fun s=>rfl) (fun k=>[]) (fz) (fun k s0=> .nil) (F:=fun k s=>A3f k s.1.1) (fun k s r h=>(E6e (R3 k) (A5G k) s).trans (F2s k s.1.1 r h)) k
theorem b50 (k:Nat) (x0:TP) (x1:TF) (x2:TP):A0 (A0D k x0 x1 x2) (B50 (H9 k) (A3f k) (M7 k) x0 x1 x2):=A0.refl _
theorem D3v (k:Nat):B5 Tryz.prog (D0o (A0D k)):=
 B6 B7 HM D50 (es:=fun k=>D6m (H9 k) (A3f k) (M7 k)) (fun k=>fc ⟨B2s k,fc ⟨E6x k,fc ⟨B9p k,fz⟩⟩⟩) Tryz.func50 0 (by kernel_rfl) (fun s=>rfl) (fun k=>[]) (fz) (fun k s0=> .nil) (F:=fun k s=>A0D k s.1.1 s.1.2.1 s.1.2.2.1) (fun k s r h=>(e50 (H9 k) (A3f k) (M7 k) s).trans (b50 k s.1.1 s.1.2.1 s.1.2.2.1 r h)) k
theorem b16 (k:Nat):A0 (A4T k) (B16 (A8k k) (W5 k) (o3 k) (A8w k) (V2 k) (A8p k) (A0D k)):=A0.refl _
theorem F0j (k:Nat):B5 Tryz.prog (D4Z (A4T k)):=
 B6 B7 HM D16 (es:=fun k=>D3j (A8k k) (W5 k) (o3 k) (A8w k) (V2 k) (A8p k) (A0D k)) (fun k=>fc ⟨F8A k,fc ⟨C7L k,fc ⟨D3N k,fc ⟨F6I k,fc ⟨D0K k,fc ⟨E0h k,fc ⟨D3v k,fz⟩⟩⟩⟩⟩⟩⟩) Tryz.func16 0 (by kernel_rfl) (fun s=>rfl) (fun k=>[]) (fz) (fun k s0=> .nil) (F:=fun k s=>A4T k) (fun k s r h=>(e16 (A8k k) (W5 k) (o3 k) (A8w k) (V2 k) (A8p k) (A0D k) s).trans (b16 k r h)) k
theorem F2V (k:Nat) (x5:(List Int)) (x6:Int) (x7:Int):A0 (A0t (k+1) x5 x6 x7) (A8s (A0t k) x5 x6 x7):=by rw [A0t];exact A0.refl _
theorem b34 (k:Nat) (x0:(List Int)):A0 (A5Z k x0) (B34 (A0t k) x0):=A0.refl _
theorem E8r (k:Nat):B5 Tryz.prog (D6L (A5Z k)):=
 B6 B7 HM D34 (es:=fun k=>[]) (fun k=>fz) Tryz.func34 1 (by kernel_rfl) (fun s=>rfl) (fun k=>D0L (A0t k)) (fc ⟨fun s=>rfl,fz⟩) (fun k s0=> .cons (by kernel_rfl) (by kernel_rfl) (fun s r h=>(F3R (A0t k) s0 s).trans (F2V k s.1.1 s.1.2.1 s.1.2.2.1 r h)) (.nil)) (F:=fun k s=>A5Z k s.1.1) (fun k s r h=>(e34 (A0t k) s).trans (b34 k s.1.1 r h)) k
theorem E3R (k:Nat) (x6:TP) (x7:Int) (x8:Int):A0 (A0P (k+1) x6 x7 x8) (A7d (A0P k) (M0 k) x6 x7 x8):=by rw [A0P];exact A0.refl _
theorem F6f (k:Nat) (x0:TP):A0 (o9 k x0) (B5a (A0P k) x0):=A0.refl _
theorem D4q (k:Nat):B5 Tryz.prog (C3r (o9 k)):=
 B6 B7 HM B3H (es:=fun k=>C5e (M0 k)) (fun k=>fc ⟨D7O k,fz⟩) Tryz.func117 1 (by kernel_rfl) (fun s=>rfl) (fun k=>C1s (A0P k)) (fc ⟨fun s=>rfl,fz⟩) (fun k s0=> .cons (by kernel_rfl) (by kernel_rfl) (fun s r h=>(E5i (A0P k) (M0 k) s0 s).trans (E3R k s.1.1 s.1.2.1 s.1.2.2.1 r h)) (.nil)) (F:=fun k s=>o9 k s.1.1) (fun k s r h=>(F1E (A0P k) (M0 k) s).trans (F6f k s.1.1 r h)) k
theorem E9W (k:Nat) (x9:TF) (x10:Int) (x11:Int):A0 (A1B (k+1) x9 x10 x11) (A9h (A1B k) (o9 k) x9 x10 x11):=by rw [A1B];exact A0.refl _
theorem b44 (k:Nat) (x0:TF):A0 (j8 k x0) (B44 (A1B k) x0):=A0.refl _
theorem D7l (k:Nat):B5 Tryz.prog (C6p (j8 k)):=
 B6 B7 HM D44 (es:=fun k=>D1B (o9 k)) (fun k=>fc ⟨D4q k,fz⟩) Tryz.func44 1 (by kernel_rfl) (fun s=>rfl) (fun k=>D1C (A1B k)) (fc ⟨fun s=>rfl,fz⟩) (fun k s0=> .cons (by kernel_rfl) (by kernel_rfl) (fun s r h=>(F2q (A1B k) (o9 k) s0 s).trans (E9W k s.1.1 s.1.2.1 s.1.2.2.1 r h)) (.nil)) (F:=fun k s=>j8 k s.1.1) (fun k s r h=>(e44 (A1B k) (o9 k) s).trans (b44 k s.1.1 r h)) k
theorem E0x (k:Nat) (x0:TI):A0 (g8 k x0) (A5K x0):=A0.refl _
theorem D6w (k:Nat):B5 Tryz.prog (C6w (g8 k)):=
 B6 B7 HM B7b (es:=fun k=>[]) (fun k=>fz) Tryz.func159 0 (by kernel_rfl) (fun s=>rfl) (fun k=>[]) (fz) (fun k s0=> .nil) (F:=fun k s=>g8 k s.1.1) (fun k s r h=>(E3T s).trans (E0x k s.1.1 r h)) k
theorem F0O (k:Nat) (x0:Bool) (x1:ByteArray):A0 (l9 k x0 x1) (D0j x0 x1):=by
 show A0 (All.galoisref02_Make.f x0 x1) _
 unfold All.galoisref02_Make.f;unfold D0j;(try simp only [All.integer_zero.f,All.exact_stepAt.f,All.S24.f0,All.S24.f1,All.rd_T24,All.z24]);exact BR
theorem C7a (k:Nat):B5 Tryz.prog (B8I (l9 k)):=
 B6 B7 HM B6R (es:=fun k=>[]) (fun k=>fz) Tryz.func198 0 (by kernel_rfl) (fun s=>rfl) (fun k=>[]) (fz) (fun k s0=> .nil) (F:=fun k s=>l9 k s.1.1 s.1.2.1) (fun k s r h=>(E0j s).trans (F0O k s.1.1 s.1.2.1 r h)) k
noncomputable abbrev A9S (k:Nat) (x8:Int) (x9:Int) (x5:(List Int)) (x6:(List Int)) (x7:(List Int)):Option A2Y:=All.galoisref01_Add.l0 k x5 x6 x7 x8 x9
theorem F1g (k:Nat) (x8:Int) (x9:Int) (x5:(List Int)) (x6:(List Int)) (x7:(List Int)):A0 (All.galoisref01_Add.l0 (k+1) x5 x6 x7 x8 x9) (C6z (A9S k) (I8 k) x8 x9 x5 x6 x7):=by
 rw [All.galoisref01_Add.l0]
 unfold C6z
 (try simp only [A9S,I8,K1,All.integer_zero.f,All.exact_stepAt.f,All.S24.f0,All.S24.f1,All.rd_T24,All.z24])
 (try simp only [F1,List.take_append_drop,List.drop_length,List.append_nil,Int.zero_sub,Int.toNat_natCast,Int.reduceToNat,Int.zero_add,List.take_zero,List.nil_append,List.append_assoc,List.length_set,W8,List.take_left,I0,bne,H2,decide_not,H3,if_true,if_false,Bool.false_eq_true,m4,t7,List.drop_zero,List.take_length,H7,F6,l7,C4,ite_not,Bool.and_eq_true,Bool.or_eq_true,Bool.not_eq_true',G9,Bool.not_eq_false',beq_iff_eq,decide_eq_true_eq,H4,G8,G6,ne_eq,H5,List.toList_toArray])
 repeat' first
 | (with_reducible refine A0.trans ((All.galoisref01_Add.mono_l k).2 _ _ _ _ _ _) ?_;rw [All.galoisref01_Add.j1];(try simp only [F1,if_true,if_false,decide_eq_true_eq,Bool.false_eq_true,decide_not,ite_not,bne,H2,beq_iff_eq,Bool.not_eq_true',G9,H5,List.toList_toArray,G8,G6,Bool.and_eq_true,Bool.or_eq_true,H4,H3,H7,All.integer_zero.f,F6,Int.toNat_natCast,Int.reduceToNat,Int.zero_sub,I0]))
 | (with_reducible exact A0.none _)
 | (with_reducible exact A0.refl _)
 | (with_reducible refine A0.posR (by with_reducible assumption) ?_)
 | (with_reducible refine A0.negR (by with_reducible assumption) ?_)
 | (with_reducible refine A0.bindR (by with_reducible assumption) ?_)
 | (with_reducible refine A0.posL (by with_reducible assumption) ?_)
 | (with_reducible refine A0.negL (by with_reducible assumption) ?_)
 | (with_reducible refine A0.iteL (fun _=>?_) (fun _=>?_))
 | (with_reducible refine A0.bindK (by with_reducible assumption) ?_)
 | (with_reducible refine A0.bindL (fun _ _=>?_))
 | (refine A0.posR (by first|decide|exact Int.le_refl _|omega|assumption) ?_)
 | (refine A0.negR (by first|decide|omega) ?_)
theorem F8R (k:Nat) (x0:ByteArray) (x1:ByteArray):A0 (A8h k x0 x1) (C5W (A9S k) (K1 k) x0 x1):=by
 show A0 (All.galoisref01_Add.f k x0 x1) _
 unfold All.galoisref01_Add.f
 unfold C5W
 (try simp only [A9S,I8,K1,All.integer_zero.f,All.exact_stepAt.f,All.S24.f0,All.S24.f1,All.rd_T24,All.z24])
 (try simp only [F1,List.take_append_drop,List.drop_length,List.append_nil,Int.zero_sub,Int.toNat_natCast,Int.reduceToNat,Int.zero_add,List.take_zero,List.nil_append,List.append_assoc,List.length_set,W8,List.take_left,I0,bne,H2,decide_not,H3,if_true,if_false,Bool.false_eq_true,m4,t7,List.drop_zero,List.take_length,H7,F6,l7,C4,ite_not,Bool.and_eq_true,Bool.or_eq_true,Bool.not_eq_true',G9,Bool.not_eq_false',beq_iff_eq,decide_eq_true_eq,H4,G8,G6,ne_eq,H5,List.toList_toArray])
 repeat' first
 | (with_reducible refine A0.trans ((All.galoisref01_Add.mono_l k).2 _ _ _ _ _ _) ?_;rw [All.galoisref01_Add.j1];(try simp only [F1,if_true,if_false,decide_eq_true_eq,Bool.false_eq_true,decide_not,ite_not,bne,H2,beq_iff_eq,Bool.not_eq_true',G9,H5,List.toList_toArray,G8,G6,Bool.and_eq_true,Bool.or_eq_true,H4,H3,H7,All.integer_zero.f,F6,Int.toNat_natCast,Int.reduceToNat,Int.zero_sub,I0]))
 | (with_reducible exact A0.none _)
 | (with_reducible exact A0.refl _)
 | (with_reducible refine A0.posR (by with_reducible assumption) ?_)
 | (with_reducible refine A0.negR (by with_reducible assumption) ?_)
 | (with_reducible refine A0.bindR (by with_reducible assumption) ?_)
 | (with_reducible refine A0.posL (by with_reducible assumption) ?_)
 | (with_reducible refine A0.negL (by with_reducible assumption) ?_)
 | (with_reducible refine A0.iteL (fun _=>?_) (fun _=>?_))
 | (with_reducible refine A0.bindK (by with_reducible assumption) ?_)
 | (with_reducible refine A0.bindL (fun _ _=>?_))
 | (refine A0.posR (by first|decide|exact Int.le_refl _|omega|assumption) ?_)
 | (refine A0.negR (by first|decide|omega) ?_)
theorem E8g (k:Nat):B5 Tryz.prog (D4R (A8h k)):=
 B6 B7 HM B2g (es:=fun k=>C9o (I8 k) (K1 k)) (fun k=>fc ⟨B5u k,fc ⟨C0A k,fz⟩⟩) Tryz.func199 1 (by kernel_rfl) (fun s=>rfl) (fun k=>C6a (A9S k)) (fc ⟨fun s=>rfl,fz⟩) (fun k s0=> .cons (by kernel_rfl) (by kernel_rfl) (fun s r h=>(E8v (A9S k) (I8 k) (K1 k) s0 s).trans (F1g k s.1.1 s.1.2.1 s.2.1 s.2.2.1 s.2.2.2.1 r h)) (.nil)) (F:=fun k s=>A8h k s.1.1 s.1.2.1) (fun k s r h=>(F0T (A9S k) (I8 k) (K1 k) s).trans (F8R k s.1.1 s.1.2.1 r h)) k
theorem E4j (k:Nat) (x0:ByteArray) (x1:ByteArray):A0 (A1A k x0 x1) (D0B x0 x1):=by
 show A0 (All.galoisref01_Compare.f k x0 x1) _
 unfold All.galoisref01_Compare.f
 unfold D0B
 (try simp only [All.integer_zero.f,All.exact_stepAt.f,All.S24.f0,All.S24.f1,All.rd_T24,All.z24])
 (try simp only [F1,List.take_append_drop,List.drop_length,List.append_nil,Int.zero_sub,Int.toNat_natCast,Int.reduceToNat,Int.zero_add,List.take_zero,List.nil_append,List.append_assoc,List.length_set,W8,List.take_left,I0,bne,H2,decide_not,H3,if_true,if_false,Bool.false_eq_true,m4,t7,List.drop_zero,List.take_length,H7,F6,l7,C4,ite_not,Bool.and_eq_true,Bool.or_eq_true,Bool.not_eq_true',G9,Bool.not_eq_false',beq_iff_eq,decide_eq_true_eq,H4,G8,G6,ne_eq,H5,List.toList_toArray])
 repeat' first
 | (with_reducible refine A0.trans ((All.galoisref01_Compare.mono_l k) _ _ _) ?_;rw [All.galoisref01_Compare.j0];(try simp only [F1,if_true,if_false,decide_eq_true_eq,Bool.false_eq_true,decide_not,ite_not,bne,H2,beq_iff_eq,Bool.not_eq_true',G9,H5,List.toList_toArray,G8,G6,Bool.and_eq_true,Bool.or_eq_true,H4,H3,H7,All.integer_zero.f,F6,Int.toNat_natCast,Int.reduceToNat,Int.zero_sub,I0]))
 | (with_reducible exact A0.none _)
 | (with_reducible exact A0.refl _)
 | (with_reducible refine A0.posR (by with_reducible assumption) ?_)
 | (with_reducible refine A0.negR (by with_reducible assumption) ?_)
 | (with_reducible refine A0.bindR (by with_reducible assumption) ?_)
 | (with_reducible refine A0.posL (by with_reducible assumption) ?_)
 | (with_reducible refine A0.negL (by with_reducible assumption) ?_)
 | (with_reducible refine A0.iteL (fun _=>?_) (fun _=>?_))
 | (with_reducible refine A0.bindK (by with_reducible assumption) ?_)
 | (with_reducible refine A0.bindL (fun _ _=>?_))
 | (refine A0.posR (by first|decide|exact Int.le_refl _|omega|assumption) ?_)
 | (refine A0.negR (by first|decide|omega) ?_)
theorem D8p (k:Nat):B5 Tryz.prog (C7j (A1A k)):=
 B6 B7 HM B7e (es:=fun k=>[]) (fun k=>fz) Tryz.func200 0 (by kernel_rfl) (fun s=>rfl) (fun k=>[]) (fz) (fun k s0=> .nil) (F:=fun k s=>A1A k s.1.1 s.1.2.1) (fun k s r h=>(E2C s).trans (E4j k s.1.1 s.1.2.1 r h)) k
noncomputable abbrev A9d (k:Nat) (x7:Int) (x8:Int) (x5:(List Int)) (x6:(List Int)):Option A2S:=All.galoisref01_Sub.l0 k x5 x6 x7 x8
theorem E5M (k:Nat) (x7:Int) (x8:Int) (x5:(List Int)) (x6:(List Int)):A0 (All.galoisref01_Sub.l0 (k+1) x5 x6 x7 x8) (C8c (A9d k) (I8 k) x7 x8 x5 x6):=by rw [All.galoisref01_Sub.l0];unfold C8c;(try simp only [A9d,A1A,I8,K1,All.integer_zero.f,All.exact_stepAt.f,All.S24.f0,All.S24.f1,All.rd_T24,All.z24]);exact BR
theorem F3q (k:Nat) (x0:ByteArray) (x1:ByteArray):A0 (A9L k x0 x1) (D0e (A9d k) (A1A k) (K1 k) x0 x1):=by
 show A0 (All.galoisref01_Sub.f k x0 x1) _
 unfold All.galoisref01_Sub.f;unfold D0e;(try simp only [A9d,A1A,I8,K1,All.integer_zero.f,All.exact_stepAt.f,All.S24.f0,All.S24.f1,All.rd_T24,All.z24]);exact BR
theorem E4s (k:Nat):B5 Tryz.prog (D8j (A9L k)):=
 B6 B7 HM B0w (es:=fun k=>D1W (A1A k) (I8 k) (K1 k)) (fun k=>fc ⟨D8p k,fc ⟨B5u k,fc ⟨C0A k,fz⟩⟩⟩) Tryz.func201 1 (by kernel_rfl) (fun s=>rfl) (fun k=>C3d (A9d k)) (fc ⟨fun s=>rfl,fz⟩) (fun k s0=> .cons (by kernel_rfl) (by kernel_rfl) (fun s r h=>(E4Q (A9d k) (A1A k) (I8 k) (K1 k) s0 s).trans (E5M k s.1.1 s.1.2.1 s.2.1 s.2.2.1 r h)) (.nil)) (F:=fun k s=>A9L k s.1.1 s.1.2.1) (fun k s r h=>(E2g (A9d k) (A1A k) (I8 k) (K1 k) s).trans (F3q k s.1.1 s.1.2.1 r h)) k
theorem E1x (k:Nat) (x0:TI) (x1:TI):A0 (A3i k x0 x1) (C7U (l9 k) (A8h k) (A1A k) (A9L k) x0 x1):=by
 show A0 (All.galoisref02_Add.f k x0.1 x0.2 x1.1 x1.2) _
 unfold All.galoisref02_Add.f;unfold C7U;(try simp only [l9,A8h,A1A,A9L,All.integer_zero.f,All.exact_stepAt.f,All.S24.f0,All.S24.f1,All.rd_T24,All.z24]);exact BR
theorem F6v (k:Nat):B5 Tryz.prog (D4n (A3i k)):=
 B6 B7 HM B7o (es:=fun k=>D8H (l9 k) (A8h k) (A1A k) (A9L k)) (fun k=>fc ⟨C7a k,fc ⟨E8g k,fc ⟨D8p k,fc ⟨E4s k,fz⟩⟩⟩⟩) Tryz.func160 0 (by kernel_rfl) (fun s=>rfl) (fun k=>[]) (fz) (fun k s0=> .nil) (F:=fun k s=>A3i k s.1.1 s.1.2.1) (fun k s r h=>(E3j (l9 k) (A8h k) (A1A k) (A9L k) s).trans (E1x k s.1.1 s.1.2.1 r h)) k
noncomputable abbrev A5D (k:Nat) (x8:Int) (x5:(List Int)) (x6:(List Int)) (x7:(List Int)):Option v7:=All.galoisref01_Mul.l0 k x5 x6 x7 x8
noncomputable abbrev A4q (k:Nat) (x8:Int) (x9:Int) (x10:Int) (x5:(List Int)) (x6:(List Int)) (x7:(List Int)):Option v7:=All.galoisref01_Mul.l1 k x5 x6 x7 x8 x9 x10
theorem F3L (k:Nat) (x8:Int) (x5:(List Int)) (x6:(List Int)) (x7:(List Int)):A0 (All.galoisref01_Mul.l0 (k+1) x5 x6 x7 x8) (C4Y (A4q k) (I8 k) x8 x5 x6 x7):=by rw [All.galoisref01_Mul.l0];unfold C4Y;(try simp only [A5D,A4q,I8,K1,All.integer_zero.f,All.exact_stepAt.f,All.S24.f0,All.S24.f1,All.rd_T24,All.z24]);exact BR
theorem E7h (k:Nat) (x8:Int) (x9:Int) (x10:Int) (x5:(List Int)) (x6:(List Int)) (x7:(List Int)):A0 (All.galoisref01_Mul.l1 (k+1) x5 x6 x7 x8 x9 x10) (C2x (A5D k) (A4q k) x8 x9 x10 x5 x6 x7):=by rw [All.galoisref01_Mul.l1];unfold C2x;(try simp only [A5D,A4q,I8,K1,All.integer_zero.f,All.exact_stepAt.f,All.S24.f0,All.S24.f1,All.rd_T24,All.z24]);exact BR
theorem F7v (k:Nat) (x0:ByteArray) (x1:ByteArray):A0 (A8Q k x0 x1) (D1U (A5D k) (K1 k) x0 x1):=by
 show A0 (All.galoisref01_Mul.f k x0 x1) _
 unfold All.galoisref01_Mul.f;unfold D1U;(try simp only [A5D,A4q,I8,K1,All.integer_zero.f,All.exact_stepAt.f,All.S24.f0,All.S24.f1,All.rd_T24,All.z24]);exact BR
theorem E9c (k:Nat):B5 Tryz.prog (D9u (A8Q k)):=
 B6 B7 HM A6E (es:=fun k=>B9Z (I8 k) (K1 k)) (fun k=>fc ⟨B5u k,fc ⟨C0A k,fz⟩⟩) Tryz.func202 2 (by kernel_rfl) (fun s=>rfl) (fun k=>B7q (A5D k) (A4q k)) (fc ⟨fun s=>rfl,fc ⟨fun s=>rfl,fz⟩⟩) (fun k s0=> .cons (by kernel_rfl) (by kernel_rfl) (fun s r h=>(F0V (A5D k) (A4q k) (I8 k) (K1 k) s0 s).trans (F3L k s.1.1 s.2.1 s.2.2.1 s.2.2.2.1 r h)) (.cons (by kernel_rfl) (by kernel_rfl) (fun s r h=>(E7T (A5D k) (A4q k) (I8 k) (K1 k) s0 s).trans (E7h k s.1.1 s.1.2.1 s.1.2.2.1 s.2.1 s.2.2.1 s.2.2.2.1 r h)) (.nil))) (F:=fun k s=>A8Q k s.1.1 s.1.2.1) (fun k s r h=>(F0g (A5D k) (A4q k) (I8 k) (K1 k) s).trans (F7v k s.1.1 s.1.2.1 r h)) k
theorem E5A (k:Nat) (x0:TI) (x1:TI):A0 (a9 k x0 x1) (C7A (l9 k) (A8Q k) x0 x1):=by
 show A0 (All.galoisref02_Mul.f k x0.1 x0.2 x1.1 x1.2) _
 unfold All.galoisref02_Mul.f;unfold C7A;(try simp only [l9,A8Q,All.integer_zero.f,All.exact_stepAt.f,All.S24.f0,All.S24.f1,All.rd_T24,All.z24]);exact BR
theorem D7E (k:Nat):B5 Tryz.prog (C4e (a9 k)):=
 B6 B7 HM B6z (es:=fun k=>D4S (l9 k) (A8Q k)) (fun k=>fc ⟨C7a k,fc ⟨E9c k,fz⟩⟩) Tryz.func161 0 (by kernel_rfl) (fun s=>rfl) (fun k=>[]) (fz) (fun k s0=> .nil) (F:=fun k s=>a9 k s.1.1 s.1.2.1) (fun k s r h=>(E1l (l9 k) (A8Q k) s).trans (E5A k s.1.1 s.1.2.1 r h)) k
theorem F2Z (k:Nat) (x0:TQ):A0 (g9 k x0) (A4v x0):=A0.refl _
theorem D6z (k:Nat):B5 Tryz.prog (C7N (g9 k)):=
 B6 B7 HM B9I (es:=fun k=>[]) (fun k=>fz) Tryz.func162 0 (by kernel_rfl) (fun s=>rfl) (fun k=>[]) (fz) (fun k s0=> .nil) (F:=fun k s=>g9 k s.1.1) (fun k s r h=>(E3Q s).trans (F2Z k s.1.1 r h)) k
theorem F7W (k:Nat) (x0:TI) (x1:TI):A0 (q8 k x0 x1) (B9R (Y9 k) (l9 k) (A0C k) x0 x1):=A0.refl _
theorem D4Q (k:Nat):B5 Tryz.prog (C3j (q8 k)):=
 B6 B7 HM B6m (es:=fun k=>D3X (Y9 k) (l9 k) (A0C k)) (fun k=>fc ⟨D3h k,fc ⟨C7a k,fc ⟨D2o k,fz⟩⟩⟩) Tryz.func163 0 (by kernel_rfl) (fun s=>rfl) (fun k=>[]) (fz) (fun k s0=> .nil) (F:=fun k s=>q8 k s.1.1 s.1.2.1) (fun k s r h=>(E1y (Y9 k) (l9 k) (A0C k) s).trans (F7W k s.1.1 s.1.2.1 r h)) k
theorem F6c (k:Nat) (x0:TQ) (x1:TQ):A0 (P4 k x0 x1) (B1H (g8 k) (A3i k) (a9 k) (g9 k) (q8 k) x0 x1):=A0.refl _
theorem D9I (k:Nat):B5 Tryz.prog (C7I (P4 k)):=
 B6 B7 HM B6x (es:=fun k=>D2P (g8 k) (A3i k) (a9 k) (g9 k) (q8 k)) (fun k=>fc ⟨D6w k,fc ⟨F6v k,fc ⟨D7E k,fc ⟨D6z k,fc ⟨D4Q k,fz⟩⟩⟩⟩⟩) Tryz.func101 0 (by kernel_rfl) (fun s=>rfl) (fun k=>[]) (fz) (fun k s0=> .nil) (F:=fun k s=>P4 k s.1.1 s.1.2.1) (fun k s r h=>(E0P (g8 k) (A3i k) (a9 k) (g9 k) (q8 k) s).trans (F6c k s.1.1 s.1.2.1 r h)) k
theorem E0W (k:Nat) (x0:TP) (x1:Int):A0 (A2j k x0 x1) (B3S (E9 k) x0 x1):=A0.refl _
theorem E1P (k:Nat):B5 Tryz.prog (D7T (A2j k)):=
 B6 B7 HM C0O (es:=fun k=>D5t (E9 k)) (fun k=>fc ⟨A9E k,fz⟩) Tryz.func102 0 (by kernel_rfl) (fun s=>rfl) (fun k=>[]) (fz) (fun k s0=> .nil) (F:=fun k s=>A2j k s.1.1 s.1.2.1) (fun k s r h=>(F4i (E9 k) s).trans (E0W k s.1.1 s.1.2.1 r h)) k
theorem F4S (k:Nat) (x0:TP) (x1:TP) (x6:Int) (x5:TP):A0 (A1S (k+1) x0 x1 x6 x5) (A7z (A1S k) (F7 k) (P4 k) (A2j k) x0 x1 x6 x5):=by rw [A1S];exact A0.refl _
theorem b20 (k:Nat) (x0:TP) (x1:TP):A0 (I2 k x0 x1) (B20 (A1S k) x0 x1):=A0.refl _
theorem B5R (k:Nat):B5 Tryz.prog (B3A (I2 k)):=
 B6 B7 HM D20 (es:=fun k=>C5o (F7 k) (P4 k) (A2j k)) (fun k=>fc ⟨B3B k,fc ⟨D9I k,fc ⟨E1P k,fz⟩⟩⟩) Tryz.func20 1 (by kernel_rfl) (fun s=>rfl) (fun k=>C8P (A1S k)) (fc ⟨fun s=>rfl,fz⟩) (fun k s0=> .cons (by kernel_rfl) (by kernel_rfl) (fun s r h=>(E8Q (A1S k) (F7 k) (P4 k) (A2j k) s0 s).trans (F4S k s.1.1 s.1.2.1 s.1.2.2.1 s.2.1 r h)) (.nil)) (F:=fun k s=>I2 k s.1.1 s.1.2.1) (fun k s r h=>(e20 (A1S k) (F7 k) (P4 k) (A2j k) s).trans (b20 k s.1.1 s.1.2.1 r h)) k
theorem E9K (k:Nat) (x0:TF) (x1:Int):A0 (A2Q k x0 x1) (B5r x0 x1):=A0.refl _
theorem E1j (k:Nat):B5 Tryz.prog (D9e (A2Q k)):=
 B6 B7 HM C0c (es:=fun k=>[]) (fun k=>fz) Tryz.func103 0 (by kernel_rfl) (fun s=>rfl) (fun k=>[]) (fz) (fun k s0=> .nil) (F:=fun k s=>A2Q k s.1.1 s.1.2.1) (fun k s r h=>(E3E s).trans (E9K k s.1.1 s.1.2.1 r h)) k
theorem E9T (k:Nat) (x0:TF) (x3:Int):A0 (A0z (k+1) x0 x3) (A9J (A0z k) x0 x3):=by rw [A0z];exact A0.refl _
theorem F0y (k:Nat) (x0:TF):A0 (J1 k x0) (B4t (A0z k) x0):=A0.refl _
theorem B9f (k:Nat):B5 Tryz.prog (B3b (J1 k)):=
 B6 B7 HM B2D (es:=fun k=>[]) (fun k=>fz) Tryz.func104 1 (by kernel_rfl) (fun s=>rfl) (fun k=>C8w (A0z k)) (fc ⟨fun s=>rfl,fz⟩) (fun k s0=> .cons (by kernel_rfl) (by kernel_rfl) (fun s r h=>(F2M (A0z k) s0 s).trans (E9T k s.1.1 s.1.2.1 r h)) (.nil)) (F:=fun k s=>J1 k s.1.1) (fun k s r h=>(F6X (A0z k) s).trans (F0y k s.1.1 r h)) k
theorem F0H (k:Nat) (x0:TF) (x1:TF) (x6:Int) (x5:TF):A0 (A1Y (k+1) x0 x1 x6 x5) (A7f (A1Y k) (I2 k) (A2Q k) (J1 k) x0 x1 x6 x5):=by rw [A1Y];exact A0.refl _
theorem b23 (k:Nat) (x0:TF) (x1:TF):A0 (A1Z k x0 x1) (B23 (A1Y k) x0 x1):=A0.refl _
theorem E7n (k:Nat):B5 Tryz.prog (D2w (A1Z k)):=
 B6 B7 HM D23 (es:=fun k=>C5C (I2 k) (A2Q k) (J1 k)) (fun k=>fc ⟨B5R k,fc ⟨E1j k,fc ⟨B9f k,fz⟩⟩⟩) Tryz.func23 1 (by kernel_rfl) (fun s=>rfl) (fun k=>C4Q (A1Y k)) (fc ⟨fun s=>rfl,fz⟩) (fun k s0=> .cons (by kernel_rfl) (by kernel_rfl) (fun s r h=>(E3n (A1Y k) (I2 k) (A2Q k) (J1 k) s0 s).trans (F0H k s.1.1 s.1.2.1 s.1.2.2.1 s.2.1 r h)) (.nil)) (F:=fun k s=>A1Z k s.1.1 s.1.2.1) (fun k s r h=>(e23 (A1Y k) (I2 k) (A2Q k) (J1 k) s).trans (b23 k s.1.1 s.1.2.1 r h)) k
theorem E9P (k:Nat) (x0:TQ) (x1:TQ):A0 (M4 k x0 x1) (B0l (g8 k) (a9 k) (g9 k) (q8 k) x0 x1):=A0.refl _
theorem D0Y (k:Nat):B5 Tryz.prog (B6e (M4 k)):=
 B6 B7 HM B9x (es:=fun k=>D9G (g8 k) (a9 k) (g9 k) (q8 k)) (fun k=>fc ⟨D6w k,fc ⟨D7E k,fc ⟨D6z k,fc ⟨D4Q k,fz⟩⟩⟩⟩) Tryz.func118 0 (by kernel_rfl) (fun s=>rfl) (fun k=>[]) (fz) (fun k s0=> .nil) (F:=fun k s=>M4 k s.1.1 s.1.2.1) (fun k s r h=>(E4p (g8 k) (a9 k) (g9 k) (q8 k) s).trans (E9P k s.1.1 s.1.2.1 r h)) k
theorem F2F (k:Nat) (x0:TP) (x1:TP) (x6:Int) (x5:TP):A0 (A0F (k+1) x0 x1 x6 x5) (A8e (v3 k) (F7 k) (E9 k) x0 x1 x6 x5):=by rw [A0F];exact A0.refl _
theorem F8g (k:Nat) (x0:TP) (x1:TP) (x6:Int) (x21:Int) (x22:Int) (x5:TP) (x7:TQ):A0 (v3 (k+1) x0 x1 x6 x21 x22 x5 x7) (A8K (A0F k) (v3 k) (P4 k) (M4 k) x0 x1 x6 x21 x22 x5 x7):=by rw [v3];exact A0.refl _
theorem b45 (k:Nat) (x0:TP) (x1:TP):A0 (Q9 k x0 x1) (B45 (A0F k) x0 x1):=A0.refl _
theorem D0M (k:Nat):B5 Tryz.prog (B9B (Q9 k)):=
 B6 B7 HM D45 (es:=fun k=>B6b (F7 k) (E9 k) (P4 k) (M4 k)) (fun k=>fc ⟨B3B k,fc ⟨A9E k,fc ⟨D9I k,fc ⟨D0Y k,fz⟩⟩⟩⟩) Tryz.func45 2 (by kernel_rfl) (fun s=>rfl) (fun k=>C1F (A0F k) (v3 k)) (fc ⟨fun s=>rfl,fc ⟨fun s=>rfl,fz⟩⟩) (fun k s0=> .cons (by kernel_rfl) (by kernel_rfl) (fun s r h=>(F3N (A0F k) (v3 k) (F7 k) (E9 k) (P4 k) (M4 k) s0 s).trans (F2F k s.1.1 s.1.2.1 s.1.2.2.1 s.2.1 r h)) (.cons (by kernel_rfl) (by kernel_rfl) (fun s r h=>(F2G (A0F k) (v3 k) (F7 k) (E9 k) (P4 k) (M4 k) s0 s).trans (F8g k s.1.1 s.1.2.1 s.1.2.2.1 s.1.2.2.2.1 s.1.2.2.2.2.1 s.2.1 s.2.2.1 r h)) (.nil))) (F:=fun k s=>Q9 k s.1.1 s.1.2.1) (fun k s r h=>(e45 (A0F k) (v3 k) (F7 k) (E9 k) (P4 k) (M4 k) s).trans (b45 k s.1.1 s.1.2.1 r h)) k
theorem F8h (k:Nat) (x1:Int) (x6:Int) (x2:TQ) (x5:TP):A0 (A0q (k+1) x1 x6 x2 x5) (A9K (A0q k) (F7 k) (E9 k) x1 x6 x2 x5):=by rw [A0q];exact A0.refl _
theorem b21 (k:Nat) (x0:TQ) (x1:Int):A0 (A2H k x0 x1) (B21 (A0q k) x0 x1):=A0.refl _
theorem E5l (k:Nat):B5 Tryz.prog (D5b (A2H k)):=
 B6 B7 HM D21 (es:=fun k=>C7e (F7 k) (E9 k)) (fun k=>fc ⟨B3B k,fc ⟨A9E k,fz⟩⟩) Tryz.func21 1 (by kernel_rfl) (fun s=>rfl) (fun k=>C3Z (A0q k)) (fc ⟨fun s=>rfl,fz⟩) (fun k s0=> .cons (by kernel_rfl) (by kernel_rfl) (fun s r h=>(E8F (A0q k) (F7 k) (E9 k) s0 s).trans (F8h k s.1.1 s.1.2.1 s.2.1 s.2.2.1 r h)) (.nil)) (F:=fun k s=>A2H k s.1.1 s.1.2.1) (fun k s r h=>(e21 (A0q k) (F7 k) (E9 k) s).trans (b21 k s.1.1 s.1.2.1 r h)) k
theorem F5Y (k:Nat) (x8:TP) (x9:Int) (x10:Int) (x3:TQ) (x5:TP):A0 (A1W (k+1) x8 x9 x10 x3 x5) (A8r (A1W k) (F7 k) (M4 k) x8 x9 x10 x3 x5):=by rw [A1W];exact A0.refl _
theorem b98 (k:Nat) (x0:TP) (x1:TQ):A0 (A5k k x0 x1) (B98 (A1W k) x0 x1):=A0.refl _
theorem E7C (k:Nat):B5 Tryz.prog (D6p (A5k k)):=
 B6 B7 HM D98 (es:=fun k=>C7J (F7 k) (M4 k)) (fun k=>fc ⟨B3B k,fc ⟨D0Y k,fz⟩⟩) Tryz.func98 1 (by kernel_rfl) (fun s=>rfl) (fun k=>C3Y (A1W k)) (fc ⟨fun s=>rfl,fz⟩) (fun k s0=> .cons (by kernel_rfl) (by kernel_rfl) (fun s r h=>(F3O (A1W k) (F7 k) (M4 k) s0 s).trans (F5Y k s.1.1 s.1.2.1 s.1.2.2.1 s.2.1 s.2.2.1 r h)) (.nil)) (F:=fun k s=>A5k k s.1.1 s.1.2.1) (fun k s r h=>(e98 (A1W k) (F7 k) (M4 k) s).trans (b98 k s.1.1 s.1.2.1 r h)) k
theorem b51 (k:Nat) (x0:TP) (x1:TP):A0 (A2T k x0 x1) (B51 (I2 k) (E9 k) (A5k k) x0 x1):=A0.refl _
theorem E2J (k:Nat):B5 Tryz.prog (D8r (A2T k)):=
 B6 B7 HM D51 (es:=fun k=>D8B (I2 k) (E9 k) (A5k k)) (fun k=>fc ⟨B5R k,fc ⟨A9E k,fc ⟨E7C k,fz⟩⟩⟩) Tryz.func51 0 (by kernel_rfl) (fun s=>rfl) (fun k=>[]) (fz) (fun k s0=> .nil) (F:=fun k s=>A2T k s.1.1 s.1.2.1) (fun k s r h=>(e51 (I2 k) (E9 k) (A5k k) s).trans (b51 k s.1.1 s.1.2.1 r h)) k
theorem F4U (k:Nat) (x0:TQ):A0 (A3Y k x0) (C0G x0):=A0.refl _
theorem F2D (k:Nat):B5 Tryz.prog (D8g (A3Y k)):=
 B6 B7 HM B9l (es:=fun k=>[]) (fun k=>fz) Tryz.func157 0 (by kernel_rfl) (fun s=>rfl) (fun k=>[]) (fz) (fun k s0=> .nil) (F:=fun k s=>A3Y k s.1.1) (fun k s r h=>(F1K s).trans (F4U k s.1.1 r h)) k
theorem b99 (k:Nat) (x0:TQ) (x1:TQ):A0 (A0L k x0 x1) (B99 (M4 k) (A3Y k) x0 x1):=A0.refl _
theorem F6l (k:Nat):B5 Tryz.prog (D9a (A0L k)):=
 B6 B7 HM D99 (es:=fun k=>D9P (M4 k) (A3Y k)) (fun k=>fc ⟨D0Y k,fc ⟨F2D k,fz⟩⟩) Tryz.func99 0 (by kernel_rfl) (fun s=>rfl) (fun k=>[]) (fz) (fun k s0=> .nil) (F:=fun k s=>A0L k s.1.1 s.1.2.1) (fun k s r h=>(e99 (M4 k) (A3Y k) s).trans (b99 k s.1.1 s.1.2.1 r h)) k
theorem E8N (k:Nat) (x1:TP) (x6:TP) (x7:TP):A0 (t5 (k+1) x1 x6 x7) (A9T (t5 k) (I2 k) (A2H k) (Q9 k) (A2T k) (Z7 k) (A0L k) x1 x6 x7):=by rw [t5];exact A0.refl _
theorem F7L (k:Nat) (x0:TP) (x1:TP):A0 (A4l k x0 x1) (B4J (t5 k) (F7 k) x0 x1):=A0.refl _
theorem E1G (k:Nat):B5 Tryz.prog (D9v (A4l k)):=
 B6 B7 HM B2z (es:=fun k=>C9t (I2 k) (A2H k) (Q9 k) (F7 k) (A2T k) (Z7 k) (A0L k)) (fun k=>fc ⟨B5R k,fc ⟨E5l k,fc ⟨D0M k,fc ⟨B3B k,fc ⟨E2J k,fc ⟨D9F k,fc ⟨F6l k,fz⟩⟩⟩⟩⟩⟩⟩) Tryz.func210 1 (by kernel_rfl) (fun s=>rfl) (fun k=>C1d (t5 k)) (fc ⟨fun s=>rfl,fz⟩) (fun k s0=> .cons (by kernel_rfl) (by kernel_rfl) (fun s r h=>(E2M (t5 k) (I2 k) (A2H k) (Q9 k) (F7 k) (A2T k) (Z7 k) (A0L k) s0 s).trans (E8N k s.1.1 s.1.2.1 s.1.2.2.1 r h)) (.nil)) (F:=fun k s=>A4l k s.1.1 s.1.2.1) (fun k s r h=>(F3Z (t5 k) (I2 k) (A2H k) (Q9 k) (F7 k) (A2T k) (Z7 k) (A0L k) s).trans (F7L k s.1.1 s.1.2.1 r h)) k
theorem E8P (k:Nat) (x0:TP) (x1:TP):A0 (A4e k x0 x1) (B3T (A4l k) x0 x1):=A0.refl _
theorem E7X (k:Nat):B5 Tryz.prog (D4f (A4e k)):=
 B6 B7 HM B9N (es:=fun k=>D5T (A4l k)) (fun k=>fc ⟨E1G k,fz⟩) Tryz.func167 0 (by kernel_rfl) (fun s=>rfl) (fun k=>[]) (fz) (fun k s0=> .nil) (F:=fun k s=>A4e k s.1.1 s.1.2.1) (fun k s r h=>(F4f (A4l k) s).trans (E8P k s.1.1 s.1.2.1 r h)) k
theorem E1h (k:Nat) (x0:TP) (x1:TP):A0 (P2 k x0 x1) (B5o (A4e k) x0 x1):=A0.refl _
theorem C7h (k:Nat):B5 Tryz.prog (B7S (P2 k)):=
 B6 B7 HM B9H (es:=fun k=>D8i (A4e k)) (fun k=>fc ⟨E7X k,fz⟩) Tryz.func109 0 (by kernel_rfl) (fun s=>rfl) (fun k=>[]) (fz) (fun k s0=> .nil) (F:=fun k s=>P2 k s.1.1 s.1.2.1) (fun k s r h=>(F7C (A4e k) s).trans (E1h k s.1.1 s.1.2.1 r h)) k
theorem F8Q (k:Nat) (x1:TF) (x2:TF) (x8:Int) (x3:TP) (x7:TF):A0 (A0I (k+1) x1 x2 x8 x3 x7) (A9Y (t4 k) (J1 k) x1 x2 x8 x3 x7):=by rw [A0I];exact A0.refl _
theorem E3O (k:Nat) (x1:TF) (x2:TF) (x8:Int) (x9:TP) (x22:Int) (x23:Int) (x3:TP) (x7:TF):A0 (t4 (k+1) x1 x2 x8 x9 x22 x23 x3 x7) (A8i (A0I k) (t4 k) (I2 k) (Q9 k) (P2 k) x1 x2 x8 x9 x22 x23 x3 x7):=by rw [t4];exact A0.refl _
theorem b30 (k:Nat) (x0:TP) (x1:TF) (x2:TF):A0 (A1a k x0 x1 x2) (B30 (A0I k) x0 x1 x2):=A0.refl _
theorem E4T (k:Nat):B5 Tryz.prog (D2l (A1a k)):=
 B6 B7 HM D30 (es:=fun k=>B9m (I2 k) (Q9 k) (J1 k) (P2 k)) (fun k=>fc ⟨B5R k,fc ⟨D0M k,fc ⟨B9f k,fc ⟨C7h k,fz⟩⟩⟩⟩) Tryz.func30 2 (by kernel_rfl) (fun s=>rfl) (fun k=>B7l (A0I k) (t4 k)) (fc ⟨fun s=>rfl,fc ⟨fun s=>rfl,fz⟩⟩) (fun k s0=> .cons (by kernel_rfl) (by kernel_rfl) (fun s r h=>(E2I (A0I k) (t4 k) (I2 k) (Q9 k) (J1 k) (P2 k) s0 s).trans (F8Q k s.1.1 s.1.2.1 s.1.2.2.1 s.2.1 s.2.2.1 r h)) (.cons (by kernel_rfl) (by kernel_rfl) (fun s r h=>(E7U (A0I k) (t4 k) (I2 k) (Q9 k) (J1 k) (P2 k) s0 s).trans (E3O k s.1.1 s.1.2.1 s.1.2.2.1 s.1.2.2.2.1 s.1.2.2.2.2.1 s.1.2.2.2.2.2.1 s.2.1 s.2.2.1 r h)) (.nil))) (F:=fun k s=>A1a k s.1.1 s.1.2.1 s.1.2.2.1) (fun k s r h=>(e30 (A0I k) (t4 k) (I2 k) (Q9 k) (J1 k) (P2 k) s).trans (b30 k s.1.1 s.1.2.1 s.1.2.2.1 r h)) k
theorem F6i (k:Nat) (x1:TF) (x2:TP) (x7:TF) (x8:Int) (x3:TP):A0 (A1C (k+1) x1 x2 x7 x8 x3) (A9m (A1C k) (o3 k) (A1Z k) (A1a k) (J1 k) (P2 k) x1 x2 x7 x8 x3):=by rw [A1C];exact A0.refl _
theorem b58 (k:Nat) (x0:TP) (x1:TF) (x2:TP):A0 (A5p k x0 x1 x2) (B58 (A1C k) x0 x1 x2):=A0.refl _
theorem E5D (k:Nat):B5 Tryz.prog (D2G (A5p k)):=
 B6 B7 HM D58 (es:=fun k=>C3C (o3 k) (A1Z k) (A1a k) (J1 k) (P2 k)) (fun k=>fc ⟨D3N k,fc ⟨E7n k,fc ⟨E4T k,fc ⟨B9f k,fc ⟨C7h k,fz⟩⟩⟩⟩⟩) Tryz.func58 1 (by kernel_rfl) (fun s=>rfl) (fun k=>C9x (A1C k)) (fc ⟨fun s=>rfl,fz⟩) (fun k s0=> .cons (by kernel_rfl) (by kernel_rfl) (fun s r h=>(E2b (A1C k) (o3 k) (A1Z k) (A1a k) (J1 k) (P2 k) s0 s).trans (F6i k s.1.1 s.1.2.1 s.1.2.2.1 s.1.2.2.2.1 s.2.1 r h)) (.nil)) (F:=fun k s=>A5p k s.1.1 s.1.2.1 s.1.2.2.1) (fun k s r h=>(e58 (A1C k) (o3 k) (A1Z k) (A1a k) (J1 k) (P2 k) s).trans (b58 k s.1.1 s.1.2.1 s.1.2.2.1 r h)) k
theorem b57 (k:Nat) (x0:TP) (x1:TF) (x2:TP):A0 (A3t k x0 x1 x2) (B57 (A5p k) x0 x1 x2):=A0.refl _
theorem E0N (k:Nat):B5 Tryz.prog (D8a (A3t k)):=
 B6 B7 HM D57 (es:=fun k=>D9f (A5p k)) (fun k=>fc ⟨E5D k,fz⟩) Tryz.func57 0 (by kernel_rfl) (fun s=>rfl) (fun k=>[]) (fz) (fun k s0=> .nil) (F:=fun k s=>A3t k s.1.1 s.1.2.1 s.1.2.2.1) (fun k s r h=>(e57 (A5p k) s).trans (b57 k s.1.1 s.1.2.1 s.1.2.2.1 r h)) k
theorem F1R (k:Nat) (x0:TF) (x1:Int) (x2:Int) (x3:(TP×TF×TP×Unit)):A0 (A3g k x0 x1 x2 x3) (A9A (V2 k) (j8 k) (A3t k) x0 x1 x2 x3):=A0.refl _
theorem F0S (k:Nat):B5 Tryz.prog (D2I (A3g k)):=
 B6 B7 HM B8O (es:=fun k=>D2T (V2 k) (j8 k) (A3t k)) (fun k=>fc ⟨D0K k,fc ⟨D7l k,fc ⟨E0N k,fz⟩⟩⟩) Tryz.func38 0 (by kernel_rfl) (fun s=>rfl) (fun k=>[]) (fz) (fun k s0=> .nil) (F:=fun k s=>A3g k s.1.1 s.1.2.1 s.1.2.2.1 s.1.2.2.2.1) (fun k s r h=>(E7q (V2 k) (j8 k) (A3t k) s).trans (F1R k s.1.1 s.1.2.1 s.1.2.2.1 s.1.2.2.2.1 r h)) k
theorem E5w (k:Nat) (x0:TP) (x1:TP) (x2:TP):A0 (Z2 k x0 x1 x2) (B5n (Q9 k) (P2 k) x0 x1 x2):=A0.refl _
theorem D9n (k:Nat):B5 Tryz.prog (C4L (Z2 k)):=
 B6 B7 HM B9U (es:=fun k=>D3O (Q9 k) (P2 k)) (fun k=>fc ⟨D0M k,fc ⟨C7h k,fz⟩⟩) Tryz.func116 0 (by kernel_rfl) (fun s=>rfl) (fun k=>[]) (fz) (fun k s0=> .nil) (F:=fun k s=>Z2 k s.1.1 s.1.2.1 s.1.2.2.1) (fun k s r h=>(E6h (Q9 k) (P2 k) s).trans (E5w k s.1.1 s.1.2.1 s.1.2.2.1 r h)) k
theorem E4S (k:Nat) (x2:TP) (x10:TF) (x11:Int) (x12:Int) (x3:TP) (x7:TF):A0 (A1U (k+1) x2 x10 x11 x12 x3 x7) (A7W (A1U k) (J1 k) (Z2 k) x2 x10 x11 x12 x3 x7):=by rw [A1U];exact A0.refl _
theorem b60 (k:Nat) (x0:TP) (x1:TF) (x2:TP):A0 (A5n k x0 x1 x2) (B60 (A1U k) x0 x1 x2):=A0.refl _
theorem E5S (k:Nat):B5 Tryz.prog (D9M (A5n k)):=
 B6 B7 HM D60 (es:=fun k=>C2L (J1 k) (Z2 k)) (fun k=>fc ⟨B9f k,fc ⟨D9n k,fz⟩⟩) Tryz.func60 1 (by kernel_rfl) (fun s=>rfl) (fun k=>C7W (A1U k)) (fc ⟨fun s=>rfl,fz⟩) (fun k s0=> .cons (by kernel_rfl) (by kernel_rfl) (fun s r h=>(E9x (A1U k) (J1 k) (Z2 k) s0 s).trans (E4S k s.1.1 s.1.2.1 s.1.2.2.1 s.1.2.2.2.1 s.2.1 s.2.2.1 r h)) (.nil)) (F:=fun k s=>A5n k s.1.1 s.1.2.1 s.1.2.2.1) (fun k s r h=>(e60 (A1U k) (J1 k) (Z2 k) s).trans (b60 k s.1.1 s.1.2.1 s.1.2.2.1 r h)) k
theorem b59 (k:Nat) (x0:TP) (x1:TF) (x2:TP):A0 (A4V k x0 x1 x2) (B59 (A5n k) x0 x1 x2):=A0.refl _
theorem E8R (k:Nat):B5 Tryz.prog (D5n (A4V k)):=
 B6 B7 HM D59 (es:=fun k=>D3P (A5n k)) (fun k=>fc ⟨E5S k,fz⟩) Tryz.func59 0 (by kernel_rfl) (fun s=>rfl) (fun k=>[]) (fz) (fun k s0=> .nil) (F:=fun k s=>A4V k s.1.1 s.1.2.1 s.1.2.2.1) (fun k s r h=>(e59 (A5n k) s).trans (b59 k s.1.1 s.1.2.1 s.1.2.2.1 r h)) k
theorem E1T (k:Nat) (x0:TF) (x1:Int) (x2:Int) (x3:(TP×TF×TP×Unit)):A0 (A3k k x0 x1 x2 x3) (A8v (V2 k) (j8 k) (A4V k) x0 x1 x2 x3):=A0.refl _
theorem E9m (k:Nat):B5 Tryz.prog (D9Z (A3k k)):=
 B6 B7 HM C0E (es:=fun k=>D8W (V2 k) (j8 k) (A4V k)) (fun k=>fc ⟨D0K k,fc ⟨D7l k,fc ⟨E8R k,fz⟩⟩⟩) Tryz.func38 0 (by kernel_rfl) (fun s=>rfl) (fun k=>[]) (fz) (fun k s0=> .nil) (F:=fun k s=>A3k k s.1.1 s.1.2.1 s.1.2.2.1 s.1.2.2.2.1) (fun k s r h=>(E0K (V2 k) (j8 k) (A4V k) s).trans (E1T k s.1.1 s.1.2.1 s.1.2.2.1 s.1.2.2.2.1 r h)) k
theorem b52 (k:Nat) (x0:TP) (x1:TF) (x2:TP):A0 (A3X k x0 x1 x2) (B52 (H9 k) (Z0 k) (M7 k) (k8 k) x0 x1 x2):=A0.refl _
theorem E6j (k:Nat):B5 Tryz.prog (D6Z (A3X k)):=
 B6 B7 HM D52 (es:=fun k=>D8U (H9 k) (Z0 k) (M7 k) (k8 k)) (fun k=>fc ⟨B2s k,fc ⟨D6P k,fc ⟨B9p k,fc ⟨D5S k,fz⟩⟩⟩⟩) Tryz.func52 0 (by kernel_rfl) (fun s=>rfl) (fun k=>[]) (fz) (fun k s0=> .nil) (F:=fun k s=>A3X k s.1.1 s.1.2.1 s.1.2.2.1) (fun k s r h=>(e52 (H9 k) (Z0 k) (M7 k) (k8 k) s).trans (b52 k s.1.1 s.1.2.1 s.1.2.2.1 r h)) k
theorem b54 (k:Nat) (x0:TP) (x1:TP):A0 (A5E k x0 x1) (B54 (I5 k) (o6 k) (T2 k) x0 x1):=A0.refl _
theorem F6O (k:Nat):B5 Tryz.prog (D7z (A5E k)):=
 B6 B7 HM D54 (es:=fun k=>D9g (I5 k) (o6 k) (T2 k)) (fun k=>fc ⟨B1f k,fc ⟨D2D k,fc ⟨C1Z k,fz⟩⟩⟩) Tryz.func54 0 (by kernel_rfl) (fun s=>rfl) (fun k=>[]) (fz) (fun k s0=> .nil) (F:=fun k s=>A5E k s.1.1 s.1.2.1) (fun k s r h=>(e54 (I5 k) (o6 k) (T2 k) s).trans (b54 k s.1.1 s.1.2.1 r h)) k
theorem E3t (k:Nat) (x0:TP) (x1:TF) (x2:TP):A0 (A4x k x0 x1 x2) (C1l (A1v k) x0 x1 x2):=A0.refl _
theorem F3Q (k:Nat):B5 Tryz.prog (D2m (A4x k)):=
 B6 B7 HM B7g (es:=fun k=>D2Z (A1v k)) (fun k=>fc ⟨D5w k,fz⟩) Tryz.func130 0 (by kernel_rfl) (fun s=>rfl) (fun k=>[]) (fz) (fun k s0=> .nil) (F:=fun k s=>A4x k s.1.1 s.1.2.1 s.1.2.2.1) (fun k s r h=>(E9l (A1v k) s).trans (E3t k s.1.1 s.1.2.1 s.1.2.2.1 r h)) k
theorem F1P (k:Nat) (x0:(TP×TF×TP×Unit)):A0 (A3q k x0) (B4G (R3 k) (A4x k) x0):=A0.refl _
theorem F6V (k:Nat):B5 Tryz.prog (D8R (A3q k)):=
 B6 B7 HM B6M (es:=fun k=>D2u (R3 k) (A4x k)) (fun k=>fc ⟨C0x k,fc ⟨F3Q k,fz⟩⟩) Tryz.func111 0 (by kernel_rfl) (fun s=>rfl) (fun k=>[]) (fz) (fun k s0=> .nil) (F:=fun k s=>A3q k s.1.1) (fun k s r h=>(E2h (R3 k) (A4x k) s).trans (F1P k s.1.1 r h)) k
theorem b56 (k:Nat) (x0:TP) (x1:TF) (x2:TP):A0 (A3o k x0 x1 x2) (B56 (H9 k) (A3q k) (M7 k) x0 x1 x2):=A0.refl _
theorem F1J (k:Nat):B5 Tryz.prog (D2F (A3o k)):=
 B6 B7 HM D56 (es:=fun k=>D8Q (H9 k) (A3q k) (M7 k)) (fun k=>fc ⟨B2s k,fc ⟨F6V k,fc ⟨B9p k,fz⟩⟩⟩) Tryz.func56 0 (by kernel_rfl) (fun s=>rfl) (fun k=>[]) (fz) (fun k s0=> .nil) (F:=fun k s=>A3o k s.1.1 s.1.2.1 s.1.2.2.1) (fun k s r h=>(e56 (H9 k) (A3q k) (M7 k) s).trans (b56 k s.1.1 s.1.2.1 s.1.2.2.1 r h)) k
theorem E9t (k:Nat) (x1:TF) (x2:TP) (x7:TP) (x8:Int) (x3:TP):A0 (A0W (k+1) x1 x2 x7 x8 x3) (A9Z (A0W k) (I2 k) (Z2 k) x1 x2 x7 x8 x3):=by rw [A0W];exact A0.refl _
theorem b61 (k:Nat) (x0:TP) (x1:TF) (x2:TP):A0 (A4i k x0 x1 x2) (B61 (A0W k) x0 x1 x2):=A0.refl _
theorem E9y (k:Nat):B5 Tryz.prog (D7L (A4i k)):=
 B6 B7 HM D61 (es:=fun k=>C1h (I2 k) (Z2 k)) (fun k=>fc ⟨B5R k,fc ⟨D9n k,fz⟩⟩) Tryz.func61 1 (by kernel_rfl) (fun s=>rfl) (fun k=>C6F (A0W k)) (fc ⟨fun s=>rfl,fz⟩) (fun k s0=> .cons (by kernel_rfl) (by kernel_rfl) (fun s r h=>(F7P (A0W k) (I2 k) (Z2 k) s0 s).trans (E9t k s.1.1 s.1.2.1 s.1.2.2.1 s.1.2.2.2.1 s.2.1 r h)) (.nil)) (F:=fun k s=>A4i k s.1.1 s.1.2.1 s.1.2.2.1) (fun k s r h=>(e61 (A0W k) (I2 k) (Z2 k) s).trans (b61 k s.1.1 s.1.2.1 s.1.2.2.1 r h)) k
theorem b62 (k:Nat) (x0:TP):A0 (A4n k x0) (B62 (o9 k) x0):=A0.refl _
theorem E0e (k:Nat):B5 Tryz.prog (D8M (A4n k)):=
 B6 B7 HM D62 (es:=fun k=>D5J (o9 k)) (fun k=>fc ⟨D4q k,fz⟩) Tryz.func62 0 (by kernel_rfl) (fun s=>rfl) (fun k=>[]) (fz) (fun k s0=> .nil) (F:=fun k s=>A4n k s.1.1) (fun k s r h=>(e62 (o9 k) s).trans (b62 k s.1.1 r h)) k
noncomputable abbrev FX9 (k:Nat) (x0:TP) (x1:TF) (x2:TP):Option R9:=B9 (A5c k) (S4 k) (A4T k) (W5 k) (A5Z k) (A3g k) (A3k k) (A0D k) (A3X k) (A5E k) (T2 k) (A3o k) (A4i k) (A4n k) x0 x1 x2
theorem b9 (k:Nat) (x0:TP) (x1:TF) (x2:TP):A0 (FX9 k x0 x1 x2) (B9 (A5c k) (S4 k) (A4T k) (W5 k) (A5Z k) (A3g k) (A3k k) (A0D k) (A3X k) (A5E k) (T2 k) (A3o k) (A4i k) (A4n k) x0 x1 x2):=A0.refl _
theorem ok9 (k:Nat):B5 Tryz.prog (fe9 (FX9 k)):=
 B6 B7 HM D9 (es:=fun k=>D6V (A5c k) (S4 k) (A4T k) (W5 k) (A5Z k) (A3g k) (A3k k) (A0D k) (A3X k) (A5E k) (T2 k) (A3o k) (A4i k) (A4n k)) (fun k=>fc ⟨F2H k,fc ⟨C2a k,fc ⟨F0j k,fc ⟨C7L k,fc ⟨E8r k,fc ⟨F0S k,fc ⟨E9m k,fc ⟨D3v k,fc ⟨E6j k,fc ⟨F6O k,fc ⟨C1Z k,fc ⟨F1J k,fc ⟨E9y k,fc ⟨E0e k,List.forall_mem_nil _⟩⟩⟩⟩⟩⟩⟩⟩⟩⟩⟩⟩⟩⟩) Tryz.func9 0 (by kernel_rfl) (fun s=>rfl) (fun k=>[]) (List.forall_mem_nil _) (fun k s0=> .nil) (F:=fun k s=>FX9 k s.1.1 s.1.2.1 s.1.2.2.1) (fun k s r h=>(e9 (A5c k) (S4 k) (A4T k) (W5 k) (A5Z k) (A3g k) (A3k k) (A0D k) (A3X k) (A5E k) (T2 k) (A3o k) (A4i k) (A4n k) s).trans (b9 k s.1.1 s.1.2.1 s.1.2.2.1 r h)) k
theorem calls9 (a:TP) (b:TF) (c:TP) (h:∃k,FX9 k a b c=some true) (w:World) {va vb vc:Value} (ra:At0 w (.ag (.li tQ)) a va) (rb:At0 w (.li (.li tQ)) b vb) (rc:At0 w (.li tQ) c vc):
  Calls Tryz.prog 9 #[va,vb,vc] w fun e w'=>e= .returned (.bool true)∧Below w.heap.size w w':=by
 obtain⟨k,hk⟩:=h
 have hc:=ok9 k ((a,(b,(c,()))),()) true hk (.a (.v .bo true)) rfl
 exact E4C (vs:=[va,vb,vc]) Tryz.func9 (by kernel_rfl) (c:=D9.cd) (by kernel_rfl) hc (.cons ra (.cons rb (.cons rc (.nil)))) (fun w bl φ v h=>F7F h)
end Go.Proofs.YtijohnkgomcdbaaGreatV
set_option maxRecDepth 100000
namespace Go.Proofs.YtijohnkgomcdbaaGreatV
open Go Go.RowKit YtijohnkgomcdbaaGreat YtijohnkgomcdbaaGreatE YtijohnkgomcdbaaGreatN YtijohnkgomcdbaaGreat.All YtijohnkgomcdbaaGreatW.PrintWords YtijohnkgomcdbaaGreatW.PrintLast YtijohnkgomcdbaaGreatW.PrintMore
def elR (m x:FP):Int:=if form m≠0 then form m else v8 m x
theorem E6F (m x:FP):Ev (fun k=>T2 k m x) (elR m x):=by
 unfold elR
 by_cases c:form m≠0
 ·rw [if_pos c]
  show Ev (fun k=>B55 (I5 k) (R0 k) (T6 k) _ _) _
  unfold B55
  exact Ev.bind (A7n m) (C1 c (Ev.now _))
 ·rw [if_neg c];exact C5d x (Decidable.not_not.1 c)
def gE (m x:FP):Bool:=if form m=0 then(if v8 m x=0 then !A3I m x else false)else false
theorem F7U (m x:FP):Ev (fun k=>A5E k m x) (gE m x):=by
 show Ev (fun k=>B54 (I5 k) (o6 k) (T2 k) _ _) _
 unfold B54
 unfold gE
 refine Ev.bind (A7n m) (F4 Iff.rfl (fun c=>?_) fun _=>Ev.now _)
 exact Ev.bind (C5d x c) (F4 Iff.rfl (fun _=>Ev.bind (D9A m x) (Ev.now _)) fun _=>Ev.now _)
def er (m:FP) (f:List FP) (x:FP):Int:=if U3 m f≠0 then U3 m f else v8 m x
theorem E2o (m:FP) (f:List FP) (x:FP):P3 id 0 [U3 m f,elR m x]=er m f x:=by
 unfold P3 P3 P3 er elR
 by_cases c:U3 m f≠0
 ·rw [if_pos (show id (U3 m f)≠0 from c),if_pos c];rfl
 ·have e:(if form m≠0 then form m else v8 m x)=v8 m x:=if_neg (fun h=>h (D8l (Decidable.not_not.1 c)))
  rw [if_neg (show¬id (U3 m f)≠0 from c),if_neg c,e]
  show(if v8 m x≠0 then v8 m x else 0)=_
  by_cases c2:v8 m x≠0
  ·rw [if_pos c2]
  ·rw [if_neg c2,Decidable.not_not.1 c2]
section
variable {m x:FP} {f:List FP} (h:er m f x≠0)
include h
theorem F2x:Ev (fun k=>A3X k m f x) (([]:FP),er m f x):=by
 show Ev (fun k=>B52 (H9 k) (Z0 k) (M7 k) (k8 k) _ _ _) _
 unfold B52
 have h1:=C0a m (l:=[f]) (by simp)
 rw [B7B]at h1
 unfold er at h⊢
 by_cases c:U3 m f≠0
 ·rw [if_pos c];exact Ev.bind h1 (C1 c (Ev.now _))
 ·rw [if_neg c]at h⊢;exact Ev.bind h1 (C7 c (Ev.bind (B5N m x) (C1 h (Ev.now _))))
theorem E1K:Ev (fun k=>A0D k m f x) (([]:List FP),er m f x):=by
 show Ev (fun k=>B50 (H9 k) (A3f k) (M7 k) _ _ _) _
 unfold B50
 have h1:=C0a m (l:=[f]) (by simp)
 rw [B7B]at h1
 unfold er at h⊢
 by_cases c:U3 m f≠0
 ·rw [if_pos c];exact Ev.bind h1 (C1 c (Ev.now _))
 ·rw [if_neg c]at h⊢;exact Ev.bind h1 (C7 c (Ev.bind (B5N m x) (C1 h (Ev.now _))))
theorem E3k:Ev (fun k=>A3o k m f x) (([]:List FP),er m f x):=by
 show Ev (fun k=>B56 (H9 k) (A3q k) (M7 k) _ _ _) _
 unfold B56
 have h1:=C0a m (l:=[f]) (by simp)
 rw [B7B]at h1
 unfold er at h⊢
 by_cases c:U3 m f≠0
 ·rw [if_pos c];exact Ev.bind h1 (C1 c (Ev.now _))
 ·rw [if_neg c]at h⊢;exact Ev.bind h1 (C7 c (Ev.bind (B5N m x) (C1 h (Ev.now _))))
theorem F8J:Ev (fun k=>A3g k [] (er m f x) (er m f x) (m,f,x,())) true:=by
 show Ev (fun k=>A9A (V2 k) (j8 k) (A3t k) _ _ _ _) _
 unfold A9A
 exact D6k h rfl
theorem E1e:Ev (fun k=>A3k k [] (er m f x) (er m f x) (m,f,x,())) true:=by
 show Ev (fun k=>A8v (V2 k) (j8 k) (A4V k) _ _ _ _) _
 unfold A8v
 exact D6k h rfl
end
theorem E1L {m x:FP} (hm:form m=0) (h:A3I m x=true) (hl:m.length≤5):∃X,x=X.map fr∧D9j 4 X:=by
 unfold A3I at h
 rw [if_pos hm]at h
 split at h
 ·rename_i c
  obtain⟨X,rfl,h1,h2,h3⟩:=D8m h
  rw [List.length_map]at c
  exact⟨X,rfl,h1,h3,by omega⟩
 ·cases h
theorem E7a (m:FP) (f:List FP) (x:FP):Ev (fun k=>FX9 k m f x) true:=by
 show Ev (fun k=>B9 (A5c k) (S4 k) (A4T k) (W5 k) (A5Z k) (A3g k) (A3k k) (A0D k) (A3X k) (A5E k) (T2 k) (A3o k) (A4i k) (A4n k) _ _ _) _
 unfold B9
 refine Ev.bind (F1D m (l:=[f]) (by simp)) ?_
 cases hg:C0D m [f]with
 |true=>exact A5u rfl (Ev.bind C0b (Ev.now _))
 |false=>
  refine n7 rfl (Ev.bind (F7U m x) ?_)
  cases hge:gE m x with
  |true=>exact A5u rfl (Ev.bind C0b (Ev.now _))
  |false=>
   refine n7 rfl (Ev.bind (C1V m f) (Ev.bind (E6F m x) (Ev.bind (F0e (l:=[U3 m f,elR m x]) (by simp)) ?_)))
   rw [E2o]
   by_cases c:er m f x≠0
   ·exact Ev.bind (F2x c) (Ev.bind (E1K c) (Ev.bind (E3k c) (Ev.bind (F8J c) (n7 rfl (Ev.bind (E1e c) (n7 rfl (C1 c (C1 rfl (C1 rfl (Ev.bind C0b (Ev.now _)))))))))))
   ·have c':=Decidable.not_not.1 c
    have hk0:U3 m f=0:=by
     unfold er at c'
     by_cases d:U3 m f≠0
     ·rw [if_pos d]at c';exact c'
     ·exact Decidable.not_not.1 d
    have he0:v8 m x=0:=by unfold er at c';rwa [if_neg (fun h=>h hk0)]at c'
    have hm:=D8l hk0
    obtain⟨hk,hh⟩:=F7X hm hg
    obtain⟨F,rfl,hF⟩:=hh f (by simp) hk0
    obtain⟨M,rfl,hM,m1,m2⟩:=D7c hk
    have hfe:A3I (M.map fr) x=true:=by
     unfold gE at hge
     rw [if_pos hm,if_pos he0]at hge
     cases hx:A3I (M.map fr) x with
     |true=>rfl
     |false=>rw [hx]at hge;cases hge
    obtain⟨X,rfl,hX⟩:=E1L hm hfe (by rw [List.length_map];exact m1)
    obtain⟨D,d0,dS,dF⟩:=E6Q hF
    obtain⟨E,e0,eS,eX⟩:=E1u hX
    have lF:=hF.1
    have h1:=C0a (M.map fr) (l:=[fm F]) (by simp)
    rw [B7B,hk0]at h1
    have h2:=B5N (M.map fr) (X.map fr)
    rw [he0]at h2
    have pV:=B7c hM m1 m2 d0 e0 dF eX lF dS eS F.length (by omega)
    have hn:=dne hM m1 m2 d0 e0 dF eX lF dS eS F.length
    have hs:=dsz hM m1 m2 d0 e0 dF eX lF dS eS F.length
    have sV:∀q,q∈vl M F X F.length→Sm 1024 q:=fun q hq=>(pV.mem hq).sm hn (by omega) (by omega)
    have lV:=pV.len
    have fV:A3L [(vl M F X F.length).map fr]:=⟨by simp,fun a ha=>by
     rw [List.mem_singleton.1 ha]
     refine⟨by rw [List.length_map];omega,fun y hy=>?_⟩
     obtain⟨q,hq,rfl⟩:=List.mem_map.1 hy
     exact⟨q,rfl,sV q hq⟩⟩
    have hV:Ev (fun k=>A3X k (M.map fr) (fm F) (X.map fr)) ((vl M F X F.length).map fr,(0:Int)):=by
     show Ev (fun k=>B52 (H9 k) (Z0 k) (M7 k) (k8 k) _ _ _) _
     unfold B52
     exact Ev.bind h1 (C7 (fun h=>h rfl) (Ev.bind h2 (C7 (fun h=>h rfl) (Ev.bind (E2U hM m1 m2 d0 e0 dF eX lF dS eS) (Ev.bind (F8K fV) (n7 rfl (Ev.now _)))))))
    have fS:A3L (fm (sh M F (D4 X) F.length)):=by
     obtain⟨q1,q2⟩:=C6u hM m1 m2 d0 e0 dF eX lF dS eS F.length (by omega)
     refine⟨by rw [J8];omega,fun a ha=>?_⟩
     obtain⟨b,hb,rfl⟩:=List.mem_map.1 ha
     obtain⟨i,hi,rfl⟩:=List.getElem_of_mem hb
     have q3:=q2 i
     unfold C6 at q3
     rw [List.getD_eq_getElem?_getD,List.getElem?_eq_getElem hi,Option.getD_some]at q3
     refine⟨by rw [List.length_map];have:=q3.len;omega,fun y hy=>?_⟩
     obtain⟨q,hq,rfl⟩:=List.mem_map.1 hy
     exact⟨q,rfl,(q3.mem hq).sm hn (by omega) (by omega)⟩
    have fC:A3L (fm (scF M F X)):=E4i (by omega) (X9 d0 e0) (Nat.le_trans (Y5 dS eS) (by decide)) (s:=300) (B:=30) (by decide) (by decide) fun i=>(B7J hM d0 e0 (dF i) eX).mono (by decide) (by omega)
    have hS:Ev (fun k=>A0D k (M.map fr) (fm F) (X.map fr)) (fm (sh M F (D4 X) F.length),(0:Int)):=by
     show Ev (fun k=>B50 (H9 k) (A3f k) (M7 k) _ _ _) _
     unfold B50
     have h3:Ev (fun k=>A3f k (X.map fr,fm F,M.map fr,())) (fm (sh M F (D4 X) F.length),(0:Int)):=by
      show Ev (fun k=>B6E (R3 k) (A5G k) _) _
      unfold B6E
      exact Ev.bind (E8l hM m1 m2 d0 e0 dF eX lF dS eS) (Ev.bind fS.large (n7 rfl (Ev.now _)))
     exact Ev.bind h1 (C7 (fun h=>h rfl) (Ev.bind h2 (C7 (fun h=>h rfl) (Ev.bind h3 (Ev.now _)))))
    have hC:Ev (fun k=>A3o k (M.map fr) (fm F) (X.map fr)) (fm (scF M F X),(0:Int)):=by
     show Ev (fun k=>B56 (H9 k) (A3q k) (M7 k) _ _ _) _
     unfold B56
     have h3:Ev (fun k=>A3q k (M.map fr,fm F,X.map fr,())) (fm (scF M F X),(0:Int)):=by
      show Ev (fun k=>B4G (R3 k) (A4x k) _) _
      unfold B4G
      have h4:Ev (fun k=>A4x k (M.map fr) (fm F) (X.map fr)) (fm (scF M F X)):=Ev.bind (E9N hM m1 m2 d0 e0 dF eX lF dS eS) (Ev.now _)
      exact Ev.bind h4 (Ev.bind fC.large (n7 rfl (Ev.now _)))
     exact Ev.bind h1 (C7 (fun h=>h rfl) (Ev.bind h2 (C7 (fun h=>h rfl) (Ev.bind h3 (Ev.now _)))))
    have i1:Ev (fun k=>A3g k (fm (sh M F (D4 X) F.length)) 0 0 (M.map fr,fm F,X.map fr,())) true:=by
     show Ev (fun k=>A9A (V2 k) (j8 k) (A3t k) _ _ _ _) _
     unfold A9A
     have h3:Ev (fun k=>A3t k (M.map fr) (fm F) (X.map fr)) (fm (sh M F (D4 X) F.length)):=Ev.bind (F1s hM m1 m2 d0 e0 dF eX lF dS eS) (Ev.now _)
     exact C7 (fun h=>h rfl) (Ev.bind h3 (Ev.bind fS.Rlarge (C7 (fun h=>h rfl) (C1 rfl (Ev.bind fS.same (Ev.now _))))))
    have i2:Ev (fun k=>A3k k (fm (scF M F X)) 0 0 (M.map fr,fm F,X.map fr,())) true:=by
     show Ev (fun k=>A8v (V2 k) (j8 k) (A4V k) _ _ _ _) _
     unfold A8v
     have h3:Ev (fun k=>A4V k (M.map fr) (fm F) (X.map fr)) (fm (scF M F X)):=Ev.bind (F1q hM m1 m2 d0 e0 dF eX lF dS eS) (Ev.now _)
     exact C7 (fun h=>h rfl) (Ev.bind h3 (Ev.bind fC.Rlarge (C7 (fun h=>h rfl) (C1 rfl (Ev.bind fC.same (Ev.now _))))))
    have hL:Ev (fun k=>A4n k ((vl M F X F.length).map fr)) 0:=by
     show Ev (fun k=>B62 (o9 k) _) _
     unfold B62
     rw [List.length_map]
     have h3:=D1d (f:=(vl M F X F.length).map fr) (by rw [List.length_map];omega)
     rw [B6P fun y hy=>by obtain⟨q,hq,rfl⟩:=List.mem_map.1 hy;exact D5u (sV q hq)]at h3
     exact C7 (by omega) (Ev.bind h3 (Ev.now _))
    have hSame:=D1v (f:=(vl M F X F.length).map fr) (by rw [List.length_map];omega)
    rw [c']
    exact Ev.bind hV (Ev.bind hS (Ev.bind hC (Ev.bind i1 (n7 rfl (Ev.bind i2 (n7 rfl (C7 (fun h=>h rfl) (Ev.bind (F4P hM m1 m2 d0 e0 dF eX lF dS eS) (Ev.bind hL (C7 (fun h=>h rfl) (C1 rfl (Ev.bind hSame (A5u rfl (Ev.bind C0b (Ev.now _)))))))))))))))
theorem law_at (m:FP) (f:List FP) (x:FP):∃k,FX9 k m f x=some true:=(E7a m f x).rounds
end Go.Proofs.YtijohnkgomcdbaaGreatV
namespace Go.Proofs.YtijohnkgomcdbaaGreatJ
open Go Go.RowKit Go.ChangeShapes Go.WideShapes Go.ChangeAt YtijohnkgomcdbaaGreatE
theorem E6W (b:Nat):¬C8 (fun _=> .fresh) (fun _=>⟨0,0,some 0⟩) b:=by rintro⟨_,⟨_,_,_,e⟩,_⟩;cases e
def A2P (P:Program) (t:TypeId) (ty:Ty):Prop:=∀(H:Type) (enc:TypeId×Value→H) (w:World) (base:Nat) (spare:Nat→Bool) (held:Bool) (n:Nat) (cs:List Value) (x:DataW H×List MemPlace),
 DataW.trod enc P w base spare held n t cs=some x→∃y:ty.T,D5 w (C8 (fun _=> .fresh) (fun _=>⟨0,0,some 0⟩)) ty y cs
section
variable {P:Program} {t e:TypeId} {a b:Ty} {f0 f1:Field}
theorem D0c (h:P.underlying t=some .bool):A2P P t .bo:=fun H enc w base spare held n cs x hx=>by
 obtain⟨b,rfl,_⟩:=DataW.trod_bool h hx
 exact⟨b,rfl⟩
theorem B0H (h:P.underlying t=some .string):A2P P t .st:=fun H enc w base spare held n cs x hx=>by
 obtain⟨b,rfl,_⟩:=DataW.trod_string h hx
 exact⟨b,rfl⟩
theorem F3b (h:P.underlying t=some (.struct #[f0])) (o:f0.offset=0) (hc:P.cellsOf t=P.cellsOf f0.type) (r:A2P P f0.type a):A2P P t (.ag a):=fun H enc w base spare held n cs x hx=>by
 obtain⟨y0,m,_,hl,h0⟩:=trod_struct1 h hx
 rw [o,List.drop_zero,List.take_of_length_le (by omega)]at h0
 obtain⟨y,hy⟩:=r H enc w base spare held m cs y0 h0
 exact⟨y,hy⟩
theorem B0b (h:P.underlying t=some (.struct #[f0,f1])) (o0:f0.offset=0) (o1:f1.offset=P.cellsOf f0.type) (hc:P.cellsOf t=P.cellsOf f0.type+P.cellsOf f1.type) (r0:A2P P f0.type a) (r1:A2P P f1.type b):
  A2P P t (.ag (.pr a b)):=fun H enc w base spare held n cs x hx=>by
 obtain⟨y0,y1,m,_,hl,h0,h1⟩:=trod_struct2 h hx
 rw [o0,List.drop_zero]at h0
 rw [o1,List.take_of_length_le (l:=cs.drop _) (by rw [List.length_drop];omega)]at h1
 obtain⟨z0,hz0⟩:=r0 H enc w base spare held m _ y0 h0
 obtain⟨z1,hz1⟩:=r1 H enc w base spare held m _ y1 h1
 exact⟨(z0,z1),_,_,(List.take_append_drop _ cs).symm,hz0,hz1⟩
theorem F8o {b o i j:Nat}:((⟨b,o,none⟩:Addr).add i).add j=⟨b,o+i+j,none⟩:=by
 rw [Go.Deep.add_add]
 unfold Addr.add
 split
 ·rename_i h
  rw [show o+i+j=o by omega]
 ·rw [Nat.add_assoc]
theorem B7v (h:P.underlying t=some (.slice e)) (hs:P.cellsOf e=a.sz) (hp:0<a.sz) (r:A2P P e a):A2P P t (.li a):=fun H enc w base spare held n cs x hx=>by
 rcases Go.Deep.open_slice h hx with⟨rfl,_⟩| ⟨ad,len,cap,m,k,D,Pl,rfl,_,hl,_,hm,_,hx⟩
 ·exact⟨([]:List a.T),none,0,rfl,Nat.le_refl _,Or.inl rfl⟩
 ·rcases Nat.eq_zero_or_pos len with rfl|h0
  ·exact⟨([]:List a.T),some ad,cap,rfl,Nat.zero_le _,Or.inl rfl⟩
  ·have hlm:len≤m:=by rw [hm];split<;>omega
   have key:∀i,i<len→∃y:a.T,∃ci,w.cells? base (ad.add (i*a.sz)) a.sz=some ci∧D5 w (C8 (fun _=> .fresh) (fun _=>⟨0,0,some 0⟩)) a y ci:=fun i hi=>by
    obtain⟨ci,h1,h2⟩:=hx i (by omega)
    obtain⟨y,hy⟩:=r H enc w base spare held k ci _ h2
    exact⟨y,ci,by rw [←hs];exact h1,hy⟩
   obtain⟨y0,c0,k0,_⟩:=key 0 h0
   haveI:Inhabited a.T:=⟨y0⟩
   obtain⟨f,hf⟩:=Go.Deep.choose_lt (α:=a.T) key
   have hsp:ad.spot=none∧ad.block<w.heap.size:=by
    obtain⟨_,hlen,hc⟩:=World.cells?_some k0
    have h1:=hc 0 hp
    rw [Nat.zero_mul,show(ad.add 0).add 0=ad from rfl,List.getElem?_eq_getElem (by omega)]at h1
    unfold World.cell? at h1
    split at h1
    ·rename_i c el fz hh
     split at h1
     ·cases h1
     ·rename_i hsp
      exact⟨by cases hq:ad.spot with|none=>rfl|some _=>rw [hq]at hsp;exact absurd rfl hsp,by
       rcases Nat.lt_or_ge ad.block w.heap.size with h2|h2
       ·exact h2
       ·rw [Array.getElem?_eq_none h2]at hh;cases hh⟩
    ·cases h1
   obtain⟨b,o,sp⟩:=ad
   obtain⟨rfl,hb⟩:sp=none∧b<w.heap.size:=hsp
   refine⟨(List.range len).map f,some ⟨b,o,none⟩,cap,by rw [List.length_map,List.length_range],by rw [List.length_map,List.length_range];exact hl,Or.inr ⟨b,o,rfl,E6W b,hb,fun i y hy=>?_⟩⟩
   have hi:i<len:=by
    rcases Nat.lt_or_ge i len with h1|h1
    ·exact h1
    ·unfold K9 at hy
     rw [List.getElem?_eq_none (by rw [List.length_map,List.length_range];exact h1)]at hy;cases hy
   obtain⟨ci,h1,h2⟩:=hf i hi
   obtain⟨_,hlen,hc⟩:=World.cells?_some h1
   have hyf:f i=y:=by
    unfold K9 at hy
    rw [List.getElem?_map,List.getElem?_range hi]at hy
    exact Option.some.inj hy
   rw [←hyf]
   refine⟨ci,fun j v hj=>?_,h2⟩
   have hjl:j<a.sz:=by
    rcases Nat.lt_or_ge j a.sz with h3|h3
    ·exact h3
    ·rw [List.getElem?_eq_none (by omega)]at hj;cases hj
   have h4:=hc j hjl
   rw [F8o,hj]at h4
   exact h4
end
section
variable {H:Type} {enc:TypeId×Value→H} {P:Program} {w:World} {base b0:Nat} {spare:Nat→Bool} {held:Bool} {r:Reach} {t e:TypeId} {v:Value} {d:DataW H} {p:List MemPlace} {a:Ty}
theorem at_slice (ht:P.underlying t=some (.slice e)) (hr:A2P P t (.li a)) (hv:Value.okWide P w r b0 t v) (h:DataW.Trod enc P w base spare held t v d p):∃y:Ty.T (.li a),At0 w (.li a) y v:=by
 obtain⟨ad,len,cap,rfl⟩:=okWide_slice ht hv
 obtain⟨n,hn⟩:=h
 obtain⟨y,hy⟩:=hr H enc w base spare held n _ _ hn
 exact⟨y,_,hy,rfl⟩
theorem at_struct {fs:Array Field} (ht:P.underlying t=some (.struct fs)) (hr:A2P P t (.ag a)) (hv:Value.okWide P w r b0 t v) (h:DataW.Trod enc P w base spare held t v d p):∃y:Ty.T (.ag a),At0 w (.ag a) y v:=by
 obtain⟨cs,rfl,_⟩:=okWide_struct ht hv
 obtain⟨n,hn⟩:=h
 obtain⟨y,hy⟩:=hr H enc w base spare held n _ _ hn
 exact⟨y,_,hy,rfl⟩
theorem again {w w':World} (hl:laidOutB P=true) (hr:P.readableRec t=true) (hrow:t<P.types.size) (h:DataW.Trod enc P w base (fun _=>true) true t v d p)
  (hb:Below w.heap.size w w') (hlt:∀x∈p,x.block<w.heap.size):DataW.Trod enc P w' base (fun b=>decide (b<w.heap.size)) true t v d p:=
 Go.WideElems.Trod_stays hl hr hrow h (fun x hx=>by
  have:=hb.block x.block (hlt x hx)
  cases x<;>simp_all [World.sameAt,World.cell?,MemPlace.block]) (fun x hx=>by simpa using hlt x hx)
end
end Go.Proofs.YtijohnkgomcdbaaGreatJ
namespace Go.Proofs.YtijohnkgomcdbaaGreat.Pure
open Go Go.RowKit Go.Proofs.YtijohnkgomcdbaaGreatE
theorem FieldpolyValues (a:Ty.T (.ag (.li tQ))) (b:Ty.T (.li (.li tQ))) (c:Ty.T (.li tQ)) (w:World) {va vb vc:Value}
    (ra:At0 w _ a va) (rb:At0 w _ b vb) (rc:At0 w _ c vc):
    Calls Tryz.prog 9 #[va,vb,vc] w fun e w'=>e= .returned (.bool true)∧Below w.heap.size w w':=
  Go.Proofs.YtijohnkgomcdbaaGreatV.calls9 a b c (Go.Proofs.YtijohnkgomcdbaaGreatV.law_at a b c) w ra rb rc
end Go.Proofs.YtijohnkgomcdbaaGreat.Pure
