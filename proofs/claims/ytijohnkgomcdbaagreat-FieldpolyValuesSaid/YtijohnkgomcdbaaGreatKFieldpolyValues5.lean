/- Part of the proof of the statement FieldpolyValues: lemmas on the model's steps, Lean functions that say what the program's functions compute, and proofs that the calls do just that. No hypothesis is added. -/
import Derived.Test.YtijohnkgomcdbaaGreatKFieldpolyValues4
set_option linter.all false
namespace Go.Proofs.YtijohnkgomcdbaaGreatE
open Go.RowKit Go.Proofs.YtijohnkgomcdbaaGreatW.PrintWords Go.Proofs.YtijohnkgomcdbaaGreatW.PrintLast Go.Proofs.YtijohnkgomcdbaaGreatW.PrintMore
section
variable {α β:Type}
theorem BR {g:Prop} (h:g:=by
 (try simp only [F1,List.take_append_drop,List.drop_length,List.append_nil,Int.zero_sub,Int.toNat_natCast,Int.reduceToNat,Int.zero_add,List.take_zero,List.nil_append,List.append_assoc,List.length_set,W8,List.take_left,I0,bne,H2,decide_not,H3,if_true,if_false,Bool.false_eq_true,m4,t7,List.drop_zero,List.take_length,H7,F6,l7,C4,ite_not,Bool.and_eq_true,Bool.or_eq_true,Bool.not_eq_true',G9,Bool.not_eq_false',beq_iff_eq,decide_eq_true_eq,H4,G8,G6,ne_eq,H5,List.toList_toArray])
 repeat' first
 | (with_reducible exact A0.none _)
 | (with_reducible exact A0.refl _)
 | (with_reducible refine A0.posR (by with_reducible assumption) ?_)
 | (with_reducible refine A0.negR (by with_reducible assumption) ?_)
 | (with_reducible refine A0.nnegR (by with_reducible assumption) ?_)
 | (with_reducible refine A0.bindR (by with_reducible assumption) ?_)
 | (with_reducible refine A0.ctR (by with_reducible assumption) ?_)
 | (with_reducible refine A0.cfR (by with_reducible assumption) ?_)
 | (with_reducible refine A0.posL (by with_reducible assumption) ?_)
 | (with_reducible refine A0.negL (by with_reducible assumption) ?_)
 | (with_reducible refine A0.iteL (fun _=>?_) (fun _=>?_))
 | (with_reducible refine A0.bindK (by with_reducible assumption) ?_)
 | (with_reducible refine A0.bindL (fun _ _=>?_))
 | (refine A0.posR (by first|decide|exact Int.le_refl _|omega|assumption) ?_)
 | (refine A0.negR (by first|decide|omega) ?_)):g:=h
end
end Go.Proofs.YtijohnkgomcdbaaGreatE
namespace Go.Proofs.YtijohnkgomcdbaaGreatV
open Go Go.RowKit YtijohnkgomcdbaaGreat YtijohnkgomcdbaaGreatE
noncomputable abbrev N0 (k:Nat) (x0:Int) (x1:Int) (x2:Int):Option A4o:=All.bits_Add64.f x0 x1 x2
noncomputable abbrev c7 (k:Nat) (x0:Int) (x1:Int) (x2:Int):Option A9I:=All.bits_Sub64.f x0 x1 x2
noncomputable abbrev B5w (k:Nat) (x0:Int):Option B3v:=All.bits_Len64.f x0
noncomputable abbrev M5 (k:Nat) (y0:List Int):Option u6:=(All.exact_trim.f k y0).bind fun r=>some ((r.length:Int),r++y0.drop r.length)
noncomputable abbrev b7 (k:Nat) (y0:List Int):Option A1E:=(All.galoisref01_trim.f k y0).bind fun r=>some ((r.length:Int),r++y0.drop r.length)
noncomputable abbrev z6 (k:Nat) (x1:List Int) (y0:List Int):Option A2K:=(All.galoisref01_below.f k y0 x1).bind fun r=>some (r,y0)
noncomputable abbrev A4F (k:Nat) (x0:TP):Option B4h:=A6j x0
end Go.Proofs.YtijohnkgomcdbaaGreatV
set_option maxRecDepth 100000
namespace Go.Proofs.YtijohnkgomcdbaaGreatV
open Go Go.RowKit YtijohnkgomcdbaaGreat YtijohnkgomcdbaaGreatE YtijohnkgomcdbaaGreatW.PrintWords YtijohnkgomcdbaaGreatW.PrintLast YtijohnkgomcdbaaGreatW.PrintMore
noncomputable abbrev R0 (k:Nat) (x0:TP):Option R15:=B15 x0
noncomputable abbrev A5Q (k:Nat) (x0:TI):Option B0t:=All.galoisref02_Sign.f x0.1 x0.2
noncomputable abbrev S1 (k:Nat) (x0:TQ):Option A5q:=B3J (A5Q k) x0
noncomputable abbrev i5 (k:Nat) (x0:ByteArray):Option A6s:=All.galoisref01_Valid.f x0
noncomputable abbrev A1M (k:Nat) (x0:TI):Option B2T:=All.galoisref02_Valid.f x0.1 x0.2
noncomputable abbrev w9 (k:Nat) (x0:ByteArray):Option A6k:=All.galoisref01_Fits.f x0
noncomputable abbrev A4C (k:Nat) (x0:TI):Option B0A:=All.galoisref02_Fits.f x0.1 x0.2
noncomputable abbrev c9 (k:Nat) (x0:TQ):Option B1L:=B0x (A4C k) (w9 k) x0
noncomputable abbrev I8 (k:Nat) (x0:(List Int)):Option S0:=All.galoisref01_pack.f k x0
noncomputable abbrev K1 (k:Nat) (x0:ByteArray):Option W4:=All.galoisref01_limbs.f k x0
noncomputable abbrev A0C (k:Nat) (x0:ByteArray) (x1:ByteArray):Option W3:=All.galoisref01_DivMod.f k x0 x1
noncomputable abbrev Y9 (k:Nat) (x0:ByteArray) (x1:ByteArray):Option A0x:=All.galoisref01_Gcd.f k x0 x1
noncomputable abbrev M0 (k:Nat) (x0:TQ):Option A6F:=A5C (A1M k) (i5 k) (c9 k) (Y9 k) x0
noncomputable def A1I:Nat→TP→TP→Int→Int→Option v9
 |0,_,_,_,_=>none
 |k+1,x0,x9,x10,x11=>A7T (A1I k) (S1 k) (M0 k) x0 x9 x10 x11
noncomputable abbrev T6 (k:Nat) (x0:TP):Option v9:=B69 (A1I k) x0
noncomputable abbrev A9U (k:Nat) (x0:Int):Option B2i:=All.galoisref01_Of.f k x0
noncomputable abbrev A7N (k:Nat) (x0:Int):Option B1O:=All.galoisref02_FromInt.f k x0
noncomputable abbrev E9 (k:Nat) (x0:Int):Option Z5:=B81 (A7N k) x0
noncomputable abbrev Z7 (k:Nat) (x0:TP):Option R80:=B80 (E9 k) x0
noncomputable abbrev A2u (k:Nat) (x0:TQ):Option R82:=B82 x0
noncomputable def A0w:Nat→TP→Int→Int→TP→Option T9
 |0,_,_,_,_=>none
 |k+1,x24,x25,x26,x1=>A8b (A0w k) (R0 k) (A2u k) x24 x25 x26 x1
noncomputable abbrev I5 (k:Nat) (x0:TP):Option T9:=B13 (A0w k) (T6 k) (Z7 k) (E9 k) x0
noncomputable abbrev T2 (k:Nat) (x0:TP) (x1:TP):Option R55:=B55 (I5 k) (R0 k) (T6 k) x0 x1
noncomputable def A0i:Nat→TF→TF→Int→Int→TP→Option v6
 |0,_,_,_,_,_=>none
 |k+1,x1,x16,x17,x18,x2=>A8y (A0i k) (T2 k) x1 x16 x17 x18 x2
noncomputable abbrev S4 (k:Nat) (x0:TP) (x1:TF):Option v6:=B14 (A0i k) (I5 k) x0 x1
noncomputable def A0p:Nat→TP→Int→Int→Option R70
 |0,_,_,_=>none
 |k+1,x17,x18,x19=>A8m (A0p k) x17 x18 x19
noncomputable abbrev A5f (k:Nat) (x0:TP) (x1:Int):Option R70:=B70 (A0p k) (T6 k) x0 x1
noncomputable abbrev o6 (k:Nat) (x0:TP) (x1:TP):Option R49:=B49 (I5 k) (R0 k) (A5f k) x0 x1
noncomputable def A0s:Nat→TP→Int→Int→Option R79
 |0,_,_,_=>none
 |k+1,x19,x20,x21=>A9R (A0s k) x19 x20 x21
noncomputable abbrev i9 (k:Nat) (x0:TP) (x1:Int):Option R79:=B79 (A0s k) (I5 k) x0 x1
noncomputable def A1D:Nat→TF→Int→Int→TP→Option R26
 |0,_,_,_,_=>none
 |k+1,x28,x29,x30,x4=>A9P (A1D k) (o6 k) x28 x29 x30 x4
noncomputable abbrev A2d (k:Nat) (x0:TP) (x1:TF) (x2:Int) (x3:Int):Option R26:=B26 (A1D k) (S4 k) (i9 k) x0 x1 x2 x3
noncomputable def A0y:Nat→(List TF)→Int→Int→TP→Option R12
 |0,_,_,_,_=>none
 |k+1,x10,x11,x12,x2=>A9p (A0y k) (S4 k) (A2d k) (i9 k) x10 x11 x12 x2
noncomputable abbrev A5c (k:Nat) (x0:TP) (x1:(List TF)):Option R12:=B12 (A0y k) (I5 k) x0 x1
noncomputable abbrev T4 (k:Nat) (x0:TI):Option A4B:=A4H x0
noncomputable abbrev A0Y (k:Nat) (x0:(List Int)):Option A2g:=All.exact_trim.f k x0
noncomputable abbrev H1 (k:Nat) (x0:(List Int)):Option L8:=All.exact_pack.f k x0
noncomputable abbrev A8P (k:Nat) (x0:Int):Option B2A:=All.exact_NatOf.f k x0
noncomputable abbrev A5o (k:Nat) (x0:Int):Option A9x:=All.exact_IntOf.f k x0
noncomputable abbrev E2 (k:Nat) (x0:Int):Option Z3:=B89 (T4 k) (A5o k) x0
noncomputable abbrev J3 (k:Nat) (x0:TQ):Option A1i:=C9v x0
noncomputable abbrev Y4 (k:Nat) (x0:ByteArray):Option A7J:=All.natural_Check.f k x0
noncomputable abbrev A7c (k:Nat):Option B0v:=All.integer_zero.f
noncomputable abbrev s7 (k:Nat) (x0:TI):Option B2X:=All.integer_Check.f k x0.1 x0.2
noncomputable abbrev J5 (k:Nat) (x0:ByteArray):Option U9:=All.exact_words.f k x0
noncomputable abbrev A0Z (k:Nat) (x0:(List Int)) (x1:(List Int)):Option A3M:=All.exact_compareWords.f k x0 x1
noncomputable abbrev V4 (k:Nat) (x0:Int):Option A7E:=All.bits_LeadingZeros64.f x0
noncomputable abbrev R7 (k:Nat) (x0:Int) (x1:Int) (x2:Int):Option j7:=All.bits_Div64.f k x0 x1 x2
noncomputable abbrev A1H (k:Nat) (x0:(List Int)) (x1:Int):Option A2y:=All.exact_shiftUp.f k x0 x1
noncomputable abbrev S7 (k:Nat) (x0:Int) (x1:Int):Option A7L:=All.bits_Mul64.f x0 x1
noncomputable abbrev A1G (k:Nat) (x1:(List Int)) (y0:(List Int)):Option X4:=All.exact_step.f k y0 x1
noncomputable abbrev A0l (k:Nat) (x0:(List Int)) (x1:(List Int)):Option U4:=All.exact_divide.f k x0 x1
noncomputable abbrev U6 (k:Nat) (x0:ByteArray) (x1:ByteArray):Option A1J:=All.exact_NatGcd.f k x0 x1
noncomputable abbrev N4 (k:Nat) (x0:TQ):Option A9z:=A3P (s7 k) (Y4 k) (U6 k) x0
noncomputable def A0g:Nat→TP→TP→Int→Int→Option A0U
 |0,_,_,_,_=>none
 |k+1,x0,x9,x10,x11=>A9k (A0g k) (J3 k) (N4 k) x0 x9 x10 x11
noncomputable abbrev A0H (k:Nat) (x0:TP):Option A0U:=B3Q (A0g k) x0
noncomputable abbrev A7u (k:Nat) (x0:TQ):Option B0r:=C8W x0
noncomputable abbrev A2c (k:Nat) (x0:TQ):Option B1Y:=C8H (A7u k) x0
noncomputable def A0o:Nat→TP→Int→Int→Option A2V
 |0,_,_,_=>none
 |k+1,x0,x7,x8=>A9r (A0o k) (A2c k) x0 x7 x8
noncomputable abbrev A6A (k:Nat) (x0:TP):Option A2V:=B5B (A0o k) x0
noncomputable abbrev A5R (k:Nat) (x0:TP):Option A9v:=C9V (A6A k) x0
noncomputable abbrev A3y (k:Nat) (x0:TP):Option B2P:=B6A (E2 k) (A0H k) (A5R k) x0
noncomputable abbrev M7 (k:Nat) (x0:TP) (x1:TP):Option A1m:=B4s (A0H k) x0 x1
noncomputable def A0S:Nat→TF→TF→Int→Int→TP→Option A2N
 |0,_,_,_,_,_=>none
 |k+1,x1,x11,x12,x13,x2=>A9G (A0S k) (M7 k) x1 x11 x12 x13 x2
noncomputable abbrev A2o (k:Nat) (x0:TP) (x1:TF):Option A2N:=B5A (A0S k) x0 x1
noncomputable def A1L:Nat→(List TF)→Int→Int→TP→Option U2
 |0,_,_,_,_=>none
 |k+1,x14,x15,x16,x2=>A8d (A1L k) (A2o k) x14 x15 x16 x2
noncomputable abbrev H9 (k:Nat) (x0:TP) (x1:(List TF)):Option U2:=B83 (A1L k) (A3y k) x0 x1
noncomputable abbrev A0j (k:Nat) (x0:(List Int)) (x1:(List Int)):Option i8:=All.exact_mulWords.f k x0 x1
noncomputable abbrev V7 (k:Nat) (x0:ByteArray) (x1:ByteArray):Option A3m:=All.exact_NatMul.f k x0 x1
noncomputable abbrev K6 (k:Nat) (x0:Bool) (x1:ByteArray):Option l6:=All.exact_IntMake.f x0 x1
noncomputable abbrev A3Z (k:Nat) (x0:TI) (x1:TI):Option B2K:=All.exact_IntMul.f k x0.1 x0.2 x1.1 x1.2
noncomputable abbrev A4g (k:Nat) (x0:ByteArray) (x1:ByteArray):Option B0u:=All.exact_NatDivMod.f k x0 x1
noncomputable abbrev b6 (k:Nat) (x0:TI) (x1:TI):Option A6B:=B4b (K6 k) (U6 k) (A4g k) x0 x1
noncomputable abbrev F3 (k:Nat) (x0:TQ) (x1:TQ):Option A0G:=B0O (T4 k) (A3Z k) (b6 k) (V7 k) x0 x1
noncomputable abbrev A3J (k:Nat) (x0:ByteArray) (x1:Int):Option A0r:=All.exact_NatPow.f k x0 x1
noncomputable abbrev A9X (k:Nat) (x0:TI) (x1:Int):Option B1C:=C2w (A3J k) (K6 k) x0 x1
noncomputable abbrev A6H (k:Nat) (x0:TQ) (x1:Int):Option B0q:=D1F (A9X k) (A3J k) x0 x1
noncomputable abbrev A7K (k:Nat) (x0:TI):Option B3F:=All.exact_IntNeg.f x0.1 x0.2
noncomputable abbrev w7 (k:Nat) (x0:TQ):Option A7G:=B6j (A7K k) x0
noncomputable abbrev A9V (k:Nat) (x0:ByteArray) (x1:ByteArray):Option A3V:=All.exact_NatAdd.f k x0 x1
noncomputable abbrev A8T (k:Nat) (x0:ByteArray) (x1:ByteArray):Option B2L:=All.exact_NatCmp.f k x0 x1
noncomputable abbrev A8q (k:Nat) (x0:ByteArray) (x1:ByteArray):Option A2k:=All.exact_NatSub.f k x0 x1
noncomputable abbrev A3l (k:Nat) (x0:TI) (x1:TI):Option B2d:=All.exact_IntAdd.f k x0.1 x0.2 x1.1 x1.2
noncomputable abbrev L3 (k:Nat) (x0:TQ) (x1:TQ):Option A4N:=B3C (T4 k) (b6 k) (V7 k) (A3l k) (K6 k) x0 x1
noncomputable abbrev N2 (k:Nat) (x0:TQ) (x1:TQ):Option R88:=B88 (w7 k) (L3 k) x0 x1
noncomputable def A0M:Nat→TP→Int→Option R8
 |0,_,_=>none
 |k+1,x0,x3=>A7Z (A0M k) (J3 k) x0 x3
noncomputable abbrev E5 (k:Nat) (x0:TP):Option R8:=B92 (A0M k) x0
noncomputable abbrev Q7 (k:Nat) (x0:TQ):Option A3r:=B6J x0
noncomputable abbrev C6G (k:Nat) (x0:TP):Option C1B:=C3x x0
noncomputable abbrev C5Y (k:Nat) (x0:TP):Option B6h:=A6j x0
mutual
noncomputable def v4:Nat→TP→TP→Int→Int→Int→TP→TP→Option R5
 |0,_,_,_,_,_,_,_=>none
 |k+1,x0,x1,x7,x30,x31,x6,x8=>A8V (v4 k) (T5 k) (E2 k) (Q7 k) x0 x1 x7 x30 x31 x6 x8
noncomputable def T5:Nat→TP→Int→Int→TP→TP→TQ→Option R5
 |0,_,_,_,_,_,_=>none
 |k+1,x1,x7,x11,x6,x8,x10=>A9c (T5 k) (m7 k) (E5 k) (F3 k) (J3 k) x1 x7 x11 x6 x8 x10
noncomputable def m7:Nat→TP→Int→Int→Int→Int→TP→TP→TQ→TQ→Option R5
 |0,_,_,_,_,_,_,_,_,_=>none
 |k+1,x1,x7,x11,x69,x70,x6,x8,x10,x12=>A8X (T5 k) (m7 k) (N2 k) (F3 k) x1 x7 x11 x69 x70 x6 x8 x10 x12
end
noncomputable abbrev X2 (k:Nat) (x0:TP) (x1:TP):Option R5:=B5D (v4 k) (A4F k) x0 x1
noncomputable def A5M:Nat→TP→TP→TQ→TQ→Option R84
 |0,_,_,_,_=>none
 |k+1,x0,x1,x4,x5=>D0H (A5M k) (E2 k) (F3 k) (A6H k) (X2 k) (w7 k) x0 x1 x4 x5
noncomputable abbrev A3O (k:Nat) (x0:TP) (x1:TP):Option R84:=B84 (A5M k) (E2 k) x0 x1
noncomputable abbrev m9 (k:Nat) (x0:TP) (x1:Int):Option A6P:=B4l (E2 k) x0 x1
noncomputable def A0R:Nat→TP→TP→Int→Int→TP→Option d7
 |0,_,_,_,_,_=>none
 |k+1,x0,x1,x14,x15,x5=>A8I (A0R k) (E5 k) (L3 k) (m9 k) x0 x1 x14 x15 x5
noncomputable abbrev J6 (k:Nat) (x0:TP) (x1:TP):Option d7:=B90 (A0R k) x0 x1
mutual
noncomputable def q9:Nat→TP→TP→Int→Int→TP→Option P6
 |0,_,_,_,_,_=>none
 |k+1,x0,x1,x27,x28,x5=>A9g (q9 k) (U8 k) (E2 k) x0 x1 x27 x28 x5
noncomputable def U8:Nat→TP→TP→Int→Int→TP→Option P6
 |0,_,_,_,_,_=>none
 |k+1,x1,x36,x37,x38,x5=>A7i (U8 k) (o4 k) (E5 k) (J3 k) x1 x36 x37 x38 x5
noncomputable def o4:Nat→TP→Int→TP→Int→Int→TP→Int→Int→TP→TQ→Option P6
 |0,_,_,_,_,_,_,_,_,_,_=>none
 |k+1,x1,x7,x36,x37,x38,x45,x46,x47,x5,x8=>A8j (U8 k) (o4 k) (F3 k) (L3 k) x1 x7 x36 x37 x38 x45 x46 x47 x5 x8
end
noncomputable abbrev L5 (k:Nat) (x0:TP) (x1:TP):Option P6:=B91 (q9 k) x0 x1
noncomputable abbrev O1 (k:Nat) (x0:TP) (x1:TP):Option A4A:=B5C (X2 k) x0 x1
noncomputable abbrev O8 (k:Nat) (x0:TP) (x1:TP) (x2:TP):Option A3z:=B3I (L5 k) (O1 k) x0 x1 x2
noncomputable def A1N:Nat→TF→TP→TP→Int→TP→Option R85
 |0,_,_,_,_,_=>none
 |k+1,x1,x2,x7,x8,x3=>A8N (A1N k) (J6 k) (O8 k) x1 x2 x7 x8 x3
noncomputable abbrev Z0 (k:Nat) (x0:TP) (x1:TF) (x2:TP):Option R85:=B85 (A1N k) x0 x1 x2
noncomputable def A5e:Nat→(List Int)→Int→Int→TP→Option d9
 |0,_,_,_,_=>none
 |k+1,x9,x10,x11,x3=>C3m (A5e k) (E2 k) (E5 k) x9 x10 x11 x3
noncomputable abbrev L9 (k:Nat) (x0:(List Int)):Option d9:=B86 (A5e k) x0
noncomputable abbrev A3F (k:Nat) (x0:TQ) (x1:TQ):Option R87:=B87 (F3 k) (Q7 k) x0 x1
noncomputable abbrev A3C (k:Nat) (x0:TQ):Option B1c:=B3P x0
noncomputable def A0d:Nat→TP→Int→Int→Option A2E
 |0,_,_,_=>none
 |k+1,x0,x7,x8=>A8x (A0d k) (A3C k) x0 x7 x8
noncomputable abbrev A5w (k:Nat) (x0:TP):Option A2E:=B4V (A0d k) x0
noncomputable abbrev A1r (k:Nat) (x0:TP):Option A6W:=C1U (A5w k) x0
noncomputable abbrev A2q (k:Nat) (x0:TP):Option R93:=B93 (A1r k) x0
mutual
noncomputable def A1u:Nat→TF→Int→Int→Int→TP→TP→Option R6
 |0,_,_,_,_,_,_=>none
 |k+1,x1,x7,x38,x39,x2,x8=>C5P (A1u k) (A1o k) (A3O k) (Z0 k) (L9 k) x1 x7 x38 x39 x2 x8
noncomputable def A1o:Nat→Int→Int→TP→Option R6
 |0,_,_,_=>none
 |k+1,x7,x10,x8=>D0n (A1z k) (A1y k) x7 x10 x8
noncomputable def A1z:Nat→Int→Int→Int→TP→Option R6
 |0,_,_,_,_=>none
 |k+1,x7,x10,x11,x8=>C4c (A1o k) (A1z k) (A3F k) (N2 k) (E2 k) x7 x10 x11 x8
noncomputable def A1y:Nat→TP→Int→TP→Option R6
 |0,_,_,_=>none
 |k+1,x12,x13,x8=>C8T (A1y k) (L9 k) (J6 k) (L5 k) (E5 k) (A2q k) x12 x13 x8
end
noncomputable abbrev A8k (k:Nat) (x0:TP) (x1:TF):Option R6:=B17 (A1u k) (H9 k) x0 x1
noncomputable def A0V:Nat→TP→TP→Int→Int→Option s8
 |0,_,_,_,_=>none
 |k+1,x0,x1,x12,x13=>A9F (A0V k) x0 x1 x12 x13
noncomputable abbrev W5 (k:Nat) (x0:TP) (x1:TP):Option s8:=B18 (A0V k) x0 x1
noncomputable def A1T:Nat→TP→Int→Option V8
 |0,_,_=>none
 |k+1,x0,x3=>A8A (A1T k) (S1 k) x0 x3
noncomputable abbrev F7 (k:Nat) (x0:TP):Option V8:=B48 (A1T k) x0
noncomputable def A4m:Nat→(List Int)→Int→Int→TP→Option R22
 |0,_,_,_,_=>none
 |k+1,x6,x7,x8,x3=>C8R (A4m k) (F7 k) (E9 k) x6 x7 x8 x3
noncomputable abbrev o3 (k:Nat) (x0:(List Int)):Option R22:=B22 (A4m k) x0
noncomputable def A4b:Nat→TP→Int→Int→TQ→TP→Option A2n
 |0,_,_,_,_,_=>none
 |k+1,x11,x12,x13,x3,x5=>C7D (A4b k) (E5 k) (F3 k) x11 x12 x13 x3 x5
noncomputable abbrev A6a (k:Nat) (x0:TP) (x1:TQ):Option A2n:=C9P (A4b k) x0 x1
noncomputable def A5i:Nat→TP→TP→Int→Int→TP→Option A1F
 |0,_,_,_,_,_=>none
 |k+1,x0,x1,x14,x15,x5=>C3q (A5i k) (N2 k) (E5 k) (m9 k) x0 x1 x14 x15 x5
noncomputable abbrev A0B (k:Nat) (x0:TP) (x1:TP):Option A1F:=C6Z (A5i k) x0 x1
noncomputable def A5V:Nat→TP→TP→TP→TP→TP→Option A1O
 |0,_,_,_,_,_=>none
 |k+1,x0,x6,x7,x8,x9=>C7V (A5V k) (L5 k) (A6a k) (X2 k) (Q7 k) (O1 k) (A0B k) x0 x6 x7 x8 x9
noncomputable abbrev A2X (k:Nat) (x0:TP) (x1:TP):Option A1O:=C6v (A5V k) (L9 k) (O1 k) x0 x1
noncomputable def A0b:Nat→TF→Int→Option Y2
 |0,_,_=>none
 |k+1,x0,x3=>A8u (A0b k) x0 x3
noncomputable abbrev E8 (k:Nat) (x0:TF):Option Y2:=B3u (A0b k) x0
mutual
noncomputable def A1e:Nat→TF→TP→Int→Int→TP→TF→TF→Option d5
 |0,_,_,_,_,_,_,_=>none
 |k+1,x2,x3,x11,x13,x4,x10,x12=>C6k (A1e k) (A4J k) (E8 k) (O8 k) x2 x3 x11 x13 x4 x10 x12
noncomputable def A4J:Nat→TF→TP→Int→Int→TP→Int→Int→TP→TF→TF→Option d5
 |0,_,_,_,_,_,_,_,_,_,_=>none
 |k+1,x2,x3,x11,x13,x14,x60,x61,x4,x10,x12=>C6O (A1e k) (A4J k) (O8 k) (A0B k) x2 x3 x11 x13 x14 x60 x61 x4 x10 x12
end
noncomputable abbrev A1s (k:Nat) (x0:TP) (x1:TF) (x2:TF) (x3:TP):Option d5:=D0m (A1e k) (E8 k) x0 x1 x2 x3
noncomputable abbrev A0A (k:Nat) (x0:TP):Option B0j:=C8h (A1r k) x0
noncomputable def f8:Nat→TF→Int→Int→Option A3U
 |0,_,_,_=>none
 |k+1,x0,x7,x8=>A2Z (f8 k) (A0A k) x0 x7 x8
noncomputable abbrev A4y (k:Nat) (x0:TF):Option A3U:=A9C (f8 k) x0
noncomputable abbrev A9W (k:Nat) (x0:TF):Option B1U:=C4w (A4y k) x0
noncomputable abbrev k8 (k:Nat) (x0:TF):Option A6J:=C4x (A9W k) x0
noncomputable abbrev R3 (k:Nat) (x0:TF):Option A1h:=B3L (k8 k) x0
noncomputable abbrev A8w (k:Nat) (x0:TP) (x1:TF) (x2:TF):Option R28:=B28 (H9 k) (A2X k) (A1s k) (R3 k) x0 x1 x2
noncomputable def A1P:Nat→TF→TF→Int→Int→Option t3
 |0,_,_,_,_=>none
 |k+1,x0,x1,x12,x13=>A8o (A1P k) (W5 k) x0 x1 x12 x13
noncomputable abbrev V2 (k:Nat) (x0:TF) (x1:TF):Option t3:=B29 (A1P k) x0 x1
noncomputable def A0c:Nat→TP→TF→Int→Int→TP→TF→Option A0T
 |0,_,_,_,_,_,_=>none
 |k+1,x2,x13,x14,x15,x3,x7=>A7U (A0c k) (E8 k) (O8 k) x2 x13 x14 x15 x3 x7
noncomputable abbrev A1v (k:Nat) (x0:TP) (x1:TF) (x2:TP):Option A0T:=B5m (A0c k) x0 x1 x2
noncomputable abbrev A6V (k:Nat) (x0:TP) (x1:TF):Option B1N:=C3F (A2X k) (A1v k) x0 x1
noncomputable abbrev A8a (k:Nat) (x0:TF):Option B0c:=C3B x0
noncomputable abbrev A7O (k:Nat) (x0:(TF×Unit)):Option B2x:=C3E (R3 k) (A8a k) x0
noncomputable def A4j:Nat→TP→(TF×TF)→Option R31
 |0,_,_=>none
 |k+1,x3,x9=>C3N (A4j k) (L9 k) (A1s k) (A6V k) (A7O k) x3 x9
noncomputable abbrev A8p (k:Nat) (x0:TP) (x1:TF) (x2:TF):Option R31:=B31 (A4j k) (H9 k) x0 x1 x2
noncomputable abbrev A3Q (k:Nat) (x0:TF) (x1:Int):Option B1i:=B5I x0 x1
noncomputable def A0u:Nat→TF→TF→Int→Int→TF→Option A3H
 |0,_,_,_,_,_=>none
 |k+1,x0,x1,x14,x15,x5=>A7S (A0u k) (J6 k) (E8 k) (A3Q k) x0 x1 x14 x15 x5
noncomputable abbrev A2B (k:Nat) (x0:TF) (x1:TF):Option A3H:=B4O (A0u k) x0 x1
mutual
noncomputable def u9:Nat→TF→TF→Int→Int→TP→TF→Option X7
 |0,_,_,_,_,_,_=>none
 |k+1,x2,x28,x29,x30,x3,x7=>A7X (k9 k) (j3 k) x2 x28 x29 x30 x3 x7
noncomputable def k9:Nat→TF→Int→TP→TF→Int→Int→TF→Int→Int→TP→TF→Option X7
 |0,_,_,_,_,_,_,_,_,_,_,_=>none
 |k+1,x2,x8,x9,x28,x29,x30,x35,x36,x37,x3,x7=>A8l (u9 k) (k9 k) (J6 k) (L5 k) x2 x8 x9 x28 x29 x30 x35 x36 x37 x3 x7
noncomputable def j3:Nat→Int→Int→TP→TF→Option X7
 |0,_,_,_,_=>none
 |k+1,x60,x61,x3,x7=>A7P (j3 k) (E8 k) (O1 k) x60 x61 x3 x7
end
noncomputable abbrev A1c (k:Nat) (x0:TP) (x1:TF) (x2:TF):Option X7:=B5F (u9 k) x0 x1 x2
noncomputable def A1R:Nat→TF→TP→TF→TF→Int→Option A2L
 |0,_,_,_,_,_=>none
 |k+1,x1,x2,x4,x5,x6=>A7a (A1R k) (E8 k) (A2B k) (A1c k) x1 x2 x4 x5 x6
noncomputable abbrev A5G (k:Nat) (x0:TP) (x1:TF) (x2:TP):Option A2L:=B4N (A1R k) (L9 k) (E8 k) x0 x1 x2
noncomputable abbrev A3f (k:Nat) (x0:(TP×TF×TP×Unit)):Option B2h:=B6E (R3 k) (A5G k) x0
noncomputable abbrev A0D (k:Nat) (x0:TP) (x1:TF) (x2:TP):Option R50:=B50 (H9 k) (A3f k) (M7 k) x0 x1 x2
noncomputable abbrev A4T (k:Nat):Option R16:=B16 (A8k k) (W5 k) (o3 k) (A8w k) (V2 k) (A8p k) (A0D k)
noncomputable def A0t:Nat→(List Int)→Int→Int→Option R34
 |0,_,_,_=>none
 |k+1,x5,x6,x7=>A8s (A0t k) x5 x6 x7
noncomputable abbrev A5Z (k:Nat) (x0:(List Int)):Option R34:=B34 (A0t k) x0
noncomputable def A0P:Nat→TP→Int→Int→Option A0X
 |0,_,_,_=>none
 |k+1,x6,x7,x8=>A7d (A0P k) (M0 k) x6 x7 x8
noncomputable abbrev o9 (k:Nat) (x0:TP):Option A0X:=B5a (A0P k) x0
noncomputable def A1B:Nat→TF→Int→Int→Option R44
 |0,_,_,_=>none
 |k+1,x9,x10,x11=>A9h (A1B k) (o9 k) x9 x10 x11
noncomputable abbrev j8 (k:Nat) (x0:TF):Option R44:=B44 (A1B k) x0
noncomputable abbrev g8 (k:Nat) (x0:TI):Option A6e:=A5K x0
noncomputable abbrev l9 (k:Nat) (x0:Bool) (x1:ByteArray):Option A3u:=All.galoisref02_Make.f x0 x1
noncomputable abbrev A8h (k:Nat) (x0:ByteArray) (x1:ByteArray):Option A2Y:=All.galoisref01_Add.f k x0 x1
noncomputable abbrev A1A (k:Nat) (x0:ByteArray) (x1:ByteArray):Option A7B:=All.galoisref01_Compare.f k x0 x1
noncomputable abbrev A9L (k:Nat) (x0:ByteArray) (x1:ByteArray):Option A2S:=All.galoisref01_Sub.f k x0 x1
noncomputable abbrev A3i (k:Nat) (x0:TI) (x1:TI):Option B1n:=All.galoisref02_Add.f k x0.1 x0.2 x1.1 x1.2
noncomputable abbrev A8Q (k:Nat) (x0:ByteArray) (x1:ByteArray):Option v7:=All.galoisref01_Mul.f k x0 x1
noncomputable abbrev a9 (k:Nat) (x0:TI) (x1:TI):Option A6i:=All.galoisref02_Mul.f k x0.1 x0.2 x1.1 x1.2
noncomputable abbrev g9 (k:Nat) (x0:TQ):Option A6O:=A4v x0
noncomputable abbrev q8 (k:Nat) (x0:TI) (x1:TI):Option A6l:=B9R (Y9 k) (l9 k) (A0C k) x0 x1
noncomputable abbrev P4 (k:Nat) (x0:TQ) (x1:TQ):Option A6q:=B1H (g8 k) (A3i k) (a9 k) (g9 k) (q8 k) x0 x1
noncomputable abbrev A2j (k:Nat) (x0:TP) (x1:Int):Option B2j:=B3S (E9 k) x0 x1
noncomputable def A1S:Nat→TP→TP→Int→TP→Option Y0
 |0,_,_,_,_=>none
 |k+1,x0,x1,x6,x5=>A7z (A1S k) (F7 k) (P4 k) (A2j k) x0 x1 x6 x5
noncomputable abbrev I2 (k:Nat) (x0:TP) (x1:TP):Option Y0:=B20 (A1S k) x0 x1
noncomputable abbrev A2Q (k:Nat) (x0:TF) (x1:Int):Option B1x:=B5r x0 x1
noncomputable def A0z:Nat→TF→Int→Option i6
 |0,_,_=>none
 |k+1,x0,x3=>A9J (A0z k) x0 x3
noncomputable abbrev J1 (k:Nat) (x0:TF):Option i6:=B4t (A0z k) x0
noncomputable def A1Y:Nat→TF→TF→Int→TF→Option R23
 |0,_,_,_,_=>none
 |k+1,x0,x1,x6,x5=>A7f (A1Y k) (I2 k) (A2Q k) (J1 k) x0 x1 x6 x5
noncomputable abbrev A1Z (k:Nat) (x0:TF) (x1:TF):Option R23:=B23 (A1Y k) x0 x1
noncomputable abbrev M4 (k:Nat) (x0:TQ) (x1:TQ):Option A3s:=B0l (g8 k) (a9 k) (g9 k) (q8 k) x0 x1
mutual
noncomputable def A0F:Nat→TP→TP→Int→TP→Option Y3
 |0,_,_,_,_=>none
 |k+1,x0,x1,x6,x5=>A8e (v3 k) (F7 k) (E9 k) x0 x1 x6 x5
noncomputable def v3:Nat→TP→TP→Int→Int→Int→TP→TQ→Option Y3
 |0,_,_,_,_,_,_,_=>none
 |k+1,x0,x1,x6,x21,x22,x5,x7=>A8K (A0F k) (v3 k) (P4 k) (M4 k) x0 x1 x6 x21 x22 x5 x7
end
noncomputable abbrev Q9 (k:Nat) (x0:TP) (x1:TP):Option Y3:=B45 (A0F k) x0 x1
noncomputable def A0q:Nat→Int→Int→TQ→TP→Option R21
 |0,_,_,_,_=>none
 |k+1,x1,x6,x2,x5=>A9K (A0q k) (F7 k) (E9 k) x1 x6 x2 x5
noncomputable abbrev A2H (k:Nat) (x0:TQ) (x1:Int):Option R21:=B21 (A0q k) x0 x1
noncomputable def A1W:Nat→TP→Int→Int→TQ→TP→Option R98
 |0,_,_,_,_,_=>none
 |k+1,x8,x9,x10,x3,x5=>A8r (A1W k) (F7 k) (M4 k) x8 x9 x10 x3 x5
noncomputable abbrev A5k (k:Nat) (x0:TP) (x1:TQ):Option R98:=B98 (A1W k) x0 x1
noncomputable abbrev A2T (k:Nat) (x0:TP) (x1:TP):Option R51:=B51 (I2 k) (E9 k) (A5k k) x0 x1
noncomputable abbrev A3Y (k:Nat) (x0:TQ):Option B0G:=C0G x0
noncomputable abbrev A0L (k:Nat) (x0:TQ) (x1:TQ):Option R99:=B99 (M4 k) (A3Y k) x0 x1
noncomputable def t5:Nat→TP→TP→TP→Option A2z
 |0,_,_,_=>none
 |k+1,x1,x6,x7=>A9T (t5 k) (I2 k) (A2H k) (Q9 k) (A2T k) (Z7 k) (A0L k) x1 x6 x7
noncomputable abbrev A4l (k:Nat) (x0:TP) (x1:TP):Option A2z:=B4J (t5 k) (F7 k) x0 x1
noncomputable abbrev A4e (k:Nat) (x0:TP) (x1:TP):Option B2q:=B3T (A4l k) x0 x1
noncomputable abbrev P2 (k:Nat) (x0:TP) (x1:TP):Option A3v:=B5o (A4e k) x0 x1
mutual
noncomputable def A0I:Nat→TF→TF→Int→TP→TF→Option t6
 |0,_,_,_,_,_=>none
 |k+1,x1,x2,x8,x3,x7=>A9Y (t4 k) (J1 k) x1 x2 x8 x3 x7
noncomputable def t4:Nat→TF→TF→Int→TP→Int→Int→TP→TF→Option t6
 |0,_,_,_,_,_,_,_,_=>none
 |k+1,x1,x2,x8,x9,x22,x23,x3,x7=>A8i (A0I k) (t4 k) (I2 k) (Q9 k) (P2 k) x1 x2 x8 x9 x22 x23 x3 x7
end
noncomputable abbrev A1a (k:Nat) (x0:TP) (x1:TF) (x2:TF):Option t6:=B30 (A0I k) x0 x1 x2
noncomputable def A1C:Nat→TF→TP→TF→Int→TP→Option R58
 |0,_,_,_,_,_=>none
 |k+1,x1,x2,x7,x8,x3=>A9m (A1C k) (o3 k) (A1Z k) (A1a k) (J1 k) (P2 k) x1 x2 x7 x8 x3
noncomputable abbrev A5p (k:Nat) (x0:TP) (x1:TF) (x2:TP):Option R58:=B58 (A1C k) x0 x1 x2
noncomputable abbrev A3t (k:Nat) (x0:TP) (x1:TF) (x2:TP):Option R57:=B57 (A5p k) x0 x1 x2
noncomputable abbrev A3g (k:Nat) (x0:TF) (x1:Int) (x2:Int) (x3:(TP×TF×TP×Unit)):Option B0X:=A9A (V2 k) (j8 k) (A3t k) x0 x1 x2 x3
noncomputable abbrev Z2 (k:Nat) (x0:TP) (x1:TP) (x2:TP):Option A6p:=B5n (Q9 k) (P2 k) x0 x1 x2
noncomputable def A1U:Nat→TP→TF→Int→Int→TP→TF→Option R60
 |0,_,_,_,_,_,_=>none
 |k+1,x2,x10,x11,x12,x3,x7=>A7W (A1U k) (J1 k) (Z2 k) x2 x10 x11 x12 x3 x7
noncomputable abbrev A5n (k:Nat) (x0:TP) (x1:TF) (x2:TP):Option R60:=B60 (A1U k) x0 x1 x2
noncomputable abbrev A4V (k:Nat) (x0:TP) (x1:TF) (x2:TP):Option R59:=B59 (A5n k) x0 x1 x2
noncomputable abbrev A3k (k:Nat) (x0:TF) (x1:Int) (x2:Int) (x3:(TP×TF×TP×Unit)):Option B2V:=A8v (V2 k) (j8 k) (A4V k) x0 x1 x2 x3
noncomputable abbrev A3X (k:Nat) (x0:TP) (x1:TF) (x2:TP):Option R52:=B52 (H9 k) (Z0 k) (M7 k) (k8 k) x0 x1 x2
noncomputable abbrev A5E (k:Nat) (x0:TP) (x1:TP):Option R54:=B54 (I5 k) (o6 k) (T2 k) x0 x1
noncomputable abbrev A4x (k:Nat) (x0:TP) (x1:TF) (x2:TP):Option B1W:=C1l (A1v k) x0 x1 x2
noncomputable abbrev A3q (k:Nat) (x0:(TP×TF×TP×Unit)):Option B0E:=B4G (R3 k) (A4x k) x0
noncomputable abbrev A3o (k:Nat) (x0:TP) (x1:TF) (x2:TP):Option R56:=B56 (H9 k) (A3q k) (M7 k) x0 x1 x2
noncomputable def A0W:Nat→TF→TP→TP→Int→TP→Option R61
 |0,_,_,_,_,_=>none
 |k+1,x1,x2,x7,x8,x3=>A9Z (A0W k) (I2 k) (Z2 k) x1 x2 x7 x8 x3
noncomputable abbrev A4i (k:Nat) (x0:TP) (x1:TF) (x2:TP):Option R61:=B61 (A0W k) x0 x1 x2
noncomputable abbrev A4n (k:Nat) (x0:TP):Option R62:=B62 (o9 k) x0
end Go.Proofs.YtijohnkgomcdbaaGreatV
set_option maxRecDepth 100000
namespace Go.Proofs.YtijohnkgomcdbaaGreatV
open Go Go.RowKit YtijohnkgomcdbaaGreat YtijohnkgomcdbaaGreatE YtijohnkgomcdbaaGreatN YtijohnkgomcdbaaGreat.All YtijohnkgomcdbaaGreatW.PrintWords YtijohnkgomcdbaaGreatW.PrintLast YtijohnkgomcdbaaGreatW.PrintMore
abbrev Ya:= @F1
abbrev Yb:= @l7
abbrev Yc:= @F6
abbrev Yd:= @if_true
abbrev Ye:= @if_false
abbrev Yf:= @ne_eq
abbrev Yg:= @not_true_eq_false
abbrev Yh:= @not_false_eq_true
abbrev Yi:= @Bool.not_true
abbrev Yj:= @Bool.not_false
abbrev Yk:= @Bool.false_eq_true
abbrev Yl:= @Bool.not_eq_true'
abbrev Ym:= @G9
abbrev Yn:= @ite_not
abbrev Yo:= @eq_self
abbrev Yp:= @Bool.and_eq_true
abbrev Yq:= @Bool.or_eq_true
abbrev Yr:= @G8
abbrev Ys:= @G6
abbrev Yt:= @and_self
abbrev Yu:= @decide_true
abbrev Yv:= @decide_false
abbrev Yw:= @Bool.true_and
abbrev Yx:= @Bool.and_true
abbrev Yy:= @beq_self_eq_true
abbrev Yz:= @decide_eq_true_eq
abbrev YA:= @gt_iff_lt
abbrev YB:= @ge_iff_le
abbrev YC:= @Int.neg_eq_zero
theorem H0 {α:Type _} {f:Nat→Option α} {a:α} {Q:Nat→Prop}:Ev f a→(∃K,∀k,K≤k→Q k)→∃K,∀k,K≤k→f k=some a∧Q k:=fun⟨K,h⟩ ⟨L,g⟩=>⟨K+L,fun k hk=>⟨h k (by omega),g k (by omega)⟩⟩
theorem M1 {α:Type _} {f:Nat→Option α} {a:α} {Q:Nat→Prop}:(∃K,∀k,K≤k→Q k)→(∀k,Q k→f k=some a)→Ev f a:=fun⟨K,h⟩ g=>⟨K,fun k hk=>g k (h k hk)⟩
def fr (q:Rat):TI×ByteArray:=((ng q.num,ab q.num),B2 q.den)
theorem B1Q:B2 1=⟨#[1]⟩:=by decide +kernel
theorem F0K:B2 0=⟨#[]⟩:=by decide +kernel
theorem D3d {a b:ByteArray}:a.toList=b.toList↔a=b:=by
 constructor
 ·intro h
  rw [ByteArray.toList_eq,ByteArray.toList_eq]at h
  cases a;cases b
  simp only [ByteArray.mk.injEq]
  exact Array.toList_inj.1 h
 ·intro h;rw [h]
theorem B4p (m n:Nat):((B2 m).toList==(B2 n).toList)=decide (m=n):=by
 rw [Bool.eq_iff_iff,beq_iff_eq,decide_eq_true_eq,D3d,B2N]
theorem X8 (m:Nat):((B2 m).toList==(⟨#[1]⟩:ByteArray).toList)=decide (m=1):=by rw [←B1Q,B4p]
theorem B2W (m:Nat):((B2 m).toList==(⟨#[]⟩:ByteArray).toList)=decide (m=0):=by rw [←F0K,B4p]
theorem B8b (x:Int):((ab x).toList==(⟨#[]⟩:ByteArray).toList)=decide (x=0):=by
 unfold ab;rw [B2W,Bool.eq_iff_iff,decide_eq_true_eq,decide_eq_true_eq];omega
theorem C8l (x y:Int):(!(ng x==ng y))=(ng x !=ng y):=rfl
theorem C2f (m n:Nat):(B2 (m/n)).size≤(B2 m).size:=A4z (Nat.div_le_self m n)
theorem E8t {n d:Int} {g:Nat} (h0:d≠0) (hg:g∣n.natAbs) (g0:g≠0):sg (ng n !=ng d) (n.natAbs/g)=d.sign*n/g:=by
 obtain⟨c,hc⟩:=hg
 have e:n.natAbs/g=c:=by rw [hc];exact Nat.mul_div_cancel_left _ (Nat.pos_of_ne_zero g0)
 rw [e]
 have g1:(g:Int)≠0:=by omega
 have key:∀z:Int,z=g*c→z/g=(c:Int):=fun z hz=>by rw [hz];exact Int.mul_ediv_cancel_left _ g1
 have keyn:∀z:Int,z= -(g*c:Int)→z/g= -(c:Int):=fun z hz=>by
  rw [hz,←Int.mul_neg];exact Int.mul_ediv_cancel_left _ g1
 have hcast:((n.natAbs:Nat):Int)=(g:Int)*(c:Int):=by rw [hc];exact Int.natCast_mul _ _
 rcases Int.lt_or_gt_of_ne h0 with hd|hd
 ·rw [A4h hd,Int.sign_eq_neg_one_of_neg hd]
  by_cases hn:n<0
  ·rw [A4h hn];exact(key _ (by omega)).symm
  ·rw [A5A (by omega)];exact(keyn _ (by omega)).symm
 ·rw [A5A (show 0≤d by omega),Int.sign_eq_one_of_pos hd]
  by_cases hn:n<0
  ·rw [A4h hn];exact(keyn _ (by omega)).symm
  ·rw [A5A (by omega)];exact(key _ (by omega)).symm
theorem C1q {n d:Int} (h0:d≠0):Nat.gcd n.natAbs d.natAbs≠0:=by
 intro h
 have:=(Nat.gcd_eq_zero_iff.1 h).2
 omega
theorem B8t {n d:Int} (h0:d≠0):((ng (sg (ng n !=ng d) (n.natAbs/Nat.gcd n.natAbs d.natAbs)),ab (sg (ng n !=ng d) (n.natAbs/Nat.gcd n.natAbs d.natAbs))),B2 (d.natAbs/Nat.gcd n.natAbs d.natAbs))=fr (Rat.divInt n d):=by
 have e:Int.gcd d n=Nat.gcd n.natAbs d.natAbs:=Nat.gcd_comm _ _
 unfold fr
 rw [Rat.num_divInt,Rat.den_divInt,if_neg h0,e,E8t h0 (Nat.gcd_dvd_left _ _) (C1q h0)]
theorem E3q {n d:Int} (h0:d≠0) (h:Nat.gcd n.natAbs d.natAbs=1):((ng (sg (ng n !=ng d) n.natAbs),ab (sg (ng n !=ng d) n.natAbs)),ab d)=fr (Rat.divInt n d):=by
 rw [show ab d=B2 d.natAbs from rfl,←B8t h0,h,Nat.div_one,Nat.div_one]
theorem F5m {n d:Int} (hn:(ab n).size≤1099511627776) (hd:(ab d).size≤1099511627776) (h0:d≠0):Ev (fun k=>b6 k (ng n,ab n) (ng d,ab d)) (fr (Rat.divInt n d)):=by
 have h1:=D2H (m:=n.natAbs) (n:=d.natAbs) hn hd
 have hg:=Nat.pos_of_ne_zero (C1q (n:=n) h0)
 have sg_:(B2 (Nat.gcd n.natAbs d.natAbs)).size≤1099511627776:=Nat.le_trans (A4z (Nat.le_of_dvd (by omega) (Nat.gcd_dvd_right _ _))) hd
 have h2:=D8y (m:=n.natAbs) hn sg_ hg
 have h3:=D8y (m:=d.natAbs) hd sg_ hg
 have f1:=A4W (ng n !=ng d) (n.natAbs/Nat.gcd n.natAbs d.natAbs)
 have f2:=A4W (ng n !=ng d) n.natAbs
 have f3:=B8t (n:=n) h0
 by_cases hc:Nat.gcd n.natAbs d.natAbs=1
 ·have f4:=E3q h0 hc
  rw [←f4]
  rw [hc]at h1
  have h1':Ev (fun k=>exact_NatGcd.f k (ab n) (ab d)) (B2 1):=h1
  have f2':exact_IntMake.f (ng n !=ng d) (ab n)=_:=f2
  refine M1 h1' ?_
  rintro k h1'
  try dsimp only [fr]at h1'
  show b6 _ _ _=_
  unfold b6 B4b
  simp only [fr,K6,U6,A4g,Ya,Yb,Yc,Yd,Ye,Yf,Yg,Yh,Yi,Yj,Yk,Int.reduceEq,reduceCtorEq,Yl,Ym,Yn,Yo,Yp,Yq,Yr,Ys,Yt,Yu,Yv,Yw,Yx,Yy,Yz,YA,YB,YC,h1',X8,C8l,f2']
 ·rw [←f3]
  have h1':Ev (fun k=>exact_NatGcd.f k (ab n) (ab d)) (B2 (Nat.gcd n.natAbs d.natAbs)):=h1
  have h2':Ev (fun k=>exact_NatDivMod.f k (ab n) (B2 (Nat.gcd n.natAbs d.natAbs))) _:=h2
  have h3':Ev (fun k=>exact_NatDivMod.f k (ab d) (B2 (Nat.gcd n.natAbs d.natAbs))) _:=h3
  refine M1 (H0 h1' (H0 h2' h3')) ?_
  rintro k ⟨h1',h2',h3'⟩
  try dsimp only [fr]at h1' h2' h3'
  show b6 _ _ _=_
  unfold b6 B4b
  simp only [fr,K6,U6,A4g,Ya,Yb,Yc,Yd,Ye,Yf,Yg,Yh,Yi,Yj,Yk,Int.reduceEq,reduceCtorEq,Yl,Ym,Yn,Yo,Yp,Yq,Yr,Ys,Yt,Yu,Yv,Yw,Yx,Yy,Yz,YA,YB,YC,h1',h2',h3',X8,C8l,f1,hc]
theorem C8v {n:Int} {d:Nat} (hn:(ab n).size≤1099511627776) (hd:(B2 d).size≤1099511627776) (h0:d≠0):Ev (fun k=>b6 k (ng n,ab n) (false,B2 d)) (fr (mkRat n d)):=by
 have h:=F5m (d:=(d:Int)) hn (by rw [Z1];exact hd) (by omega)
 rwa [B6B,Z1,Rat.divInt_ofNat]at h
def Sm (n:Nat) (q:Rat):Prop:=(ab q.num).size≤n∧(B2 q.den).size≤n
theorem B6H {x y:Int} {n:Nat} (hx:(ab x).size≤n) (hy:(ab y).size≤n):(ab (x+y)).size≤n+1:=by
 unfold ab at*
 rw [B1l]at*
 have:=Int.natAbs_add_le x y
 rw [Nat.pow_succ]
 omega
theorem D7h {x:Int}:(ab (-x)).size=(ab x).size:=by unfold ab;rw [Int.natAbs_neg]
theorem Y5 {x y:Nat} {m n:Nat} (hx:(B2 x).size≤m) (hy:(B2 y).size≤n):(B2 (x*y)).size≤m+n:=by
 rw [B1l]at*
 rw [Nat.pow_add]
 exact Nat.mul_lt_mul'' hx hy
theorem A1f {x y:Int} {m n:Nat} (hx:(ab x).size≤m) (hy:(ab y).size≤n):(ab (x*y)).size≤m+n:=by
 unfold ab at*
 rw [Int.natAbs_mul]
 exact Y5 hx hy
theorem F6N (x:Int) (d:Nat):sg (ng x) (x.natAbs*d)=x*d:=by
 have h:=F7J x
 unfold sg at*
 cases hs:ng x with
 |true=>rw [hs]at h;simp only [if_true]at h⊢;rw [Int.natCast_mul,←Int.neg_mul,h]
 |false=>rw [hs]at h;simp only [Bool.false_eq_true,if_false]at h⊢;rw [Int.natCast_mul,h]
section
variable {a b:Rat}
theorem F4T (h:a.den=b.den):mkRat (a.num+b.num) a.den=a+b:=by
 rw [Rat.add_def',←h,←Int.add_mul,Rat.mkRat_mul_right a.den_nz]
theorem B9k (n:Int):fr (n:Rat)=((ng n,ab n),B2 1):=rfl
theorem D7e (h:a.den=1) (h2:b.den=1):((ng (a.num+b.num),ab (a.num+b.num)),(⟨#[1]⟩:ByteArray))=fr (a+b):=by
 have e:a+b=((a.num+b.num:Int):Rat):=by
  rw [Rat.add_def',h,h2]
  have h3:=Rat.mkRat_self ((a.num+b.num:Int):Rat)
  have h4:mkRat (a.num+b.num) 1=((a.num+b.num:Int):Rat):=h3
  rw [←h4]
  simp only [Int.natCast_one,Int.mul_one,Nat.mul_one]
 rw [e,B9k,B1Q]
theorem D9B (h:a.den=1) (h2:b.den=1):((ng (a.num*b.num),ab (a.num*b.num)),(⟨#[1]⟩:ByteArray))=fr (a*b):=by
 have e:a*b=((a.num*b.num:Int):Rat):=by
  rw [Rat.mul_def',h,h2]
  have h3:=Rat.mkRat_self ((a.num*b.num:Int):Rat)
  have h4:mkRat (a.num*b.num) 1=((a.num*b.num:Int):Rat):=h3
  rw [←h4]
 rw [e,B9k,B1Q]
theorem D0v (ha:Sm 10000 a) (hb:Sm 10000 b):Ev (fun k=>L3 k (fr a) (fr b)) (fr (a+b)):=by
 have h1:=D5K (Nat.le_trans ha.1 (by decide)) (Nat.le_trans hb.1 (by decide))
 by_cases hd:a.den=b.den
 ·by_cases h1d:a.den=1
  ·have h2d:b.den=1:=by omega
   rw [←D7e h1d h2d]
   refine M1 h1 ?_
   rintro k h1
   try dsimp only [fr]at h1
   show L3 _ _ _=_
   unfold L3 B3C
   simp only [fr,T4,A4H,V7,A3l,K6,Ya,Yb,Yc,Yd,Ye,Yf,Yg,Yh,Yi,Yj,Yk,Int.reduceEq,reduceCtorEq,Yl,Ym,Yn,Yo,Yp,Yq,Yr,Ys,Yt,Yu,Yv,Yw,Yx,Yy,Yz,YA,YB,YC,h1,B4p,X8,h1d,h2d]
  ·have h2:=C8v (n:=a.num+b.num) (d:=a.den) (Nat.le_trans (B6H ha.1 hb.1) (by decide)) (Nat.le_trans ha.2 (by decide)) a.den_nz
   rw [F4T hd]at h2
   rw [show(fun k=>L3 k (fr a) (fr b))=fun k=>L3 k (fr a) ((ng b.num,ab b.num),B2 a.den)from by rw [hd];rfl]
   refine M1 (H0 h1 h2) ?_
   rintro k ⟨h1,h2⟩
   try dsimp only [fr]at h1 h2
   show L3 _ _ _=_
   unfold L3 B3C
   simp only [fr,T4,A4H,V7,A3l,K6,Ya,Yb,Yc,Yd,Ye,Yf,Yg,Yh,Yi,Yj,Yk,Int.reduceEq,reduceCtorEq,Yl,Ym,Yn,Yo,Yp,Yq,Yr,Ys,Yt,Yu,Yv,Yw,Yx,Yy,Yz,YA,YB,YC,h1,h2,B4p,X8,h1d]
 ·have h3:=B4R (m:=a.num.natAbs) (n:=b.den) (Nat.le_trans ha.1 (by decide)) (Nat.le_trans hb.2 (by decide))
  have h4:=B4R (m:=b.num.natAbs) (n:=a.den) (Nat.le_trans hb.1 (by decide)) (Nat.le_trans ha.2 (by decide))
  have h5:=B4R (m:=a.den) (n:=b.den) (Nat.le_trans ha.2 (by decide)) (Nat.le_trans hb.2 (by decide))
  have f1:=A4W (ng a.num) (a.num.natAbs*b.den)
  have f2:=A4W (ng b.num) (b.num.natAbs*a.den)
  rw [F6N]at f1 f2
  have s1:(ab (a.num*b.den)).size≤20000:=Nat.le_trans (A1f ha.1 (n:=10000) (by rw [Z1];exact hb.2)) (by decide)
  have s2:(ab (b.num*a.den)).size≤20000:=Nat.le_trans (A1f hb.1 (n:=10000) (by rw [Z1];exact ha.2)) (by decide)
  have h6:=D5K (Nat.le_trans s1 (by decide)) (Nat.le_trans s2 (by decide))
  have h7:=C8v (n:=a.num*b.den+b.num*a.den) (d:=a.den*b.den) (Nat.le_trans (B6H s1 s2) (by decide)) (Nat.le_trans (Y5 ha.2 hb.2) (by decide)) (Nat.mul_ne_zero a.den_nz b.den_nz)
  rw [←Rat.add_def']at h7
  have h3':Ev (fun k=>exact_NatMul.f k (ab a.num) (B2 b.den)) _:=h3
  have h4':Ev (fun k=>exact_NatMul.f k (ab b.num) (B2 a.den)) _:=h4
  refine M1 (H0 h3' (H0 h4' (H0 h5 (H0 h6 h7)))) ?_
  rintro k ⟨h3',h4',h5,h6,h7⟩
  try dsimp only [fr]at h3' h4' h5 h6 h7
  show L3 _ _ _=_
  unfold L3 B3C
  simp only [fr,T4,A4H,V7,A3l,K6,Ya,Yb,Yc,Yd,Ye,Yf,Yg,Yh,Yi,Yj,Yk,Int.reduceEq,reduceCtorEq,Yl,Ym,Yn,Yo,Yp,Yq,Yr,Ys,Yt,Yu,Yv,Yw,Yx,Yy,Yz,YA,YB,YC,h3',h4',h5,h6,h7,B4p,X8,hd,f1,f2]
end
section
variable {a b:Rat}
theorem Sm.neg {n:Nat} (h:Sm n a):Sm n (-a):=⟨by rw [Rat.neg_num,D7h];exact h.1,h.2⟩
theorem F0P (a:Rat):Ev (fun k=>w7 k (fr a)) (fr (-a)):=by
 have f1:=E5G a.num
 have e:fr (-a)=((ng (-a.num),ab (-a.num)),B2 a.den):=rfl
 rw [e]
 refine⟨0,fun k _=>?_⟩
 show w7 _ _=_
 unfold w7 B6j
 simp only [fr,A7K,Ya,Yb,Yc,Yd,Ye,Yf,Yg,Yh,Yi,Yj,Yk,Int.reduceEq,reduceCtorEq,Yl,Ym,Yn,Yo,Yp,Yq,Yr,Ys,Yt,Yu,Yv,Yw,Yx,Yy,Yz,YA,YB,YC,f1]
theorem E6z (ha:Sm 10000 a) (hb:Sm 10000 b):Ev (fun k=>N2 k (fr a) (fr b)) (fr (a-b)):=by
 have h1:=F0P b
 have h2:=D0v ha hb.neg
 rw [←Rat.sub_eq_add_neg]at h2
 refine M1 (H0 h1 h2) ?_
 rintro k ⟨h1,h2⟩
 try dsimp only [fr]at h1 h2
 show N2 _ _ _=_
 unfold N2 B88
 simp only [fr,Ya,Yb,Yc,Yd,Ye,Yf,Yg,Yh,Yi,Yj,Yk,Int.reduceEq,reduceCtorEq,Yl,Ym,Yn,Yo,Yp,Yq,Yr,Ys,Yt,Yu,Yv,Yw,Yx,Yy,Yz,YA,YB,YC,h1,h2]
theorem C6s (ha:Sm 10000 a) (hb:Sm 10000 b):Ev (fun k=>F3 k (fr a) (fr b)) (fr (a*b)):=by
 have h1:=E8V (Nat.le_trans ha.1 (by decide)) (Nat.le_trans hb.1 (by decide))
 have h2:=B4R (m:=a.den) (n:=b.den) (Nat.le_trans ha.2 (by decide)) (Nat.le_trans hb.2 (by decide))
 have h3:=C8v (n:=a.num*b.num) (d:=a.den*b.den) (Nat.le_trans (A1f ha.1 hb.1) (by decide)) (Nat.le_trans (Y5 ha.2 hb.2) (by decide)) (Nat.mul_ne_zero a.den_nz b.den_nz)
 rw [←Rat.mul_def']at h3
 by_cases h1d:a.den=1
 ·by_cases h2d:b.den=1
  ·rw [←D9B h1d h2d]
   refine M1 h1 ?_
   rintro k h1
   try dsimp only [fr]at h1
   show F3 _ _ _=_
   unfold F3 B0O
   simp only [fr,T4,A4H,A3Z,V7,Ya,Yb,Yc,Yd,Ye,Yf,Yg,Yh,Yi,Yj,Yk,Int.reduceEq,reduceCtorEq,Yl,Ym,Yn,Yo,Yp,Yq,Yr,Ys,Yt,Yu,Yv,Yw,Yx,Yy,Yz,YA,YB,YC,h1,X8,h1d,h2d]
  ·refine M1 (H0 h1 (H0 h2 h3)) ?_
   rintro k ⟨h1,h2,h3⟩
   try dsimp only [fr]at h1 h2 h3
   show F3 _ _ _=_
   unfold F3 B0O
   simp only [fr,T4,A4H,A3Z,V7,Ya,Yb,Yc,Yd,Ye,Yf,Yg,Yh,Yi,Yj,Yk,Int.reduceEq,reduceCtorEq,Yl,Ym,Yn,Yo,Yp,Yq,Yr,Ys,Yt,Yu,Yv,Yw,Yx,Yy,Yz,YA,YB,YC,h1,h2,h3,X8,h2d,ite_self]
 ·refine M1 (H0 h1 (H0 h2 h3)) ?_
  rintro k ⟨h1,h2,h3⟩
  try dsimp only [fr]at h1 h2 h3
  show F3 _ _ _=_
  unfold F3 B0O
  simp only [fr,T4,A4H,A3Z,V7,Ya,Yb,Yc,Yd,Ye,Yf,Yg,Yh,Yi,Yj,Yk,Int.reduceEq,reduceCtorEq,Yl,Ym,Yn,Yo,Yp,Yq,Yr,Ys,Yt,Yu,Yv,Yw,Yx,Yy,Yz,YA,YB,YC,h1,h2,h3,X8,h1d]
theorem C2l (h:a≠0):fr a⁻¹=((ng a.num,B2 a.den),ab a.num):=by
 have hn:a.num≠0:=fun e=>h (Rat.num_eq_zero.1 e)
 unfold fr
 rw [Rat.num_inv,Rat.den_inv,if_neg hn]
 have hd:=a.den_pos
 rcases Int.lt_or_gt_of_ne hn with g|g
 ·rw [Int.sign_eq_neg_one_of_neg g,A4h g,A4h (by omega)]
  have:ab (-1*(a.den:Int))=B2 a.den:=by unfold ab;congr 1;omega
  rw [this];rfl
 ·rw [Int.sign_eq_one_of_pos g,A5A (show 0≤a.num by omega),A5A (by omega)]
  have:ab (1*(a.den:Int))=B2 a.den:=by unfold ab;congr 1;omega
  rw [this];rfl
theorem F8i (h:a≠0):Ev (fun k=>Q7 k (fr a)) (fr a⁻¹):=by
 rw [C2l h]
 refine⟨0,fun k _=>?_⟩
 show Q7 _ _=_
 unfold Q7 B6J
 simp only [fr,Ya,Yb,Yc,Yd,Ye,Yf,Yg,Yh,Yi,Yj,Yk,Int.reduceEq,reduceCtorEq,Yl,Ym,Yn,Yo,Yp,Yq,Yr,Ys,Yt,Yu,Yv,Yw,Yx,Yy,Yz,YA,YB,YC]
theorem Sm.inv {n:Nat} (ha:Sm n a) (h:a≠0):Sm n a⁻¹:=by
 have e:=C2l h
 unfold fr at e
 rw [Prod.mk.injEq,Prod.mk.injEq]at e
 exact⟨by rw [e.1.2];exact ha.2,by rw [e.2];exact ha.1⟩
end
abbrev FV:=TI×ByteArray
def T7 (x:FV):Int:=if M2 x.1.1 x.1.2=1∨I3 x.2=1∨x.2.size=0 then 1 else if M2 x.1.1 x.1.2≠0∨I3 x.2≠0 then 4 else
 if Nat.gcd (L4 x.1.2).toNat (L4 x.2).toNat=1 then 0 else 1
theorem D1l (a:ByteArray):I3 a=0∨I3 a=1∨I3 a=4:=by
 unfold I3
 split
 ·exact Or.inr (Or.inl rfl)
 ·split
  ·exact Or.inr (Or.inr rfl)
  ·exact Or.inl rfl
theorem E8j (s:Bool) (a:ByteArray):M2 s a=0∨M2 s a=1∨M2 s a=4:=by
 unfold M2
 split
 ·exact Or.inr (Or.inl rfl)
 ·split
  ·exact Or.inr (Or.inl rfl)
  ·exact D1l a
theorem B6v (n:Nat):(L4 (B2 n)).toNat=n:=by rw [Go.Proofs.YtijohnkgomcdbaaGreatN.bval_nat];exact Int.toNat_natCast n
theorem D5u {a:Rat} (h:Sm 1024 a):T7 (fr a)=0:=by
 unfold T7 fr
 have h1:=C8L h.1
 have h2:=B8S h.2
 simp only
 rw [if_neg,if_neg,if_pos]
 ·have:=a.reduced
  show Nat.gcd (L4 (B2 a.num.natAbs)).toNat (L4 (B2 a.den)).toNat=1
  rw [B6v,B6v];exact this
 ·rw [h1,h2];simp
 ·rw [h1,h2]
  have h3:(B2 a.den).size≠0:=fun e=>a.den_nz (B1E.1 e)
  simp [h3]
theorem D2L {x:FV} (h:T7 x=0):∃a:Rat,x=fr a∧Sm 1024 a:=by
 unfold T7 at h
 split at h
 ·cases h
 ·rename_i c1
  split at h
  ·cases h
  ·rename_i c2
   split at h
   ·rename_i c3
    rw [not_or,Decidable.not_not,Decidable.not_not]at c2
    obtain⟨z,e1,e2,e3⟩:=D7n c2.1
    obtain⟨f1,f2⟩:=C9m c2.2
    have hd:(L4 x.2).toNat≠0:=fun e=>c1 (Or.inr (Or.inr (by rw [f1,e];exact B1E.2 rfl)))
    have hr:Nat.gcd z.natAbs (L4 x.2).toNat=1:=by
     have:(L4 x.1.2).toNat=z.natAbs:=by rw [e2];exact B6v _
     rw [←this];exact c3
    refine⟨⟨z,(L4 x.2).toNat,hd,hr⟩,?_,e3,by rw [←f1];exact f2⟩
    show x=((ng z,ab z),B2 (L4 x.2).toNat)
    rw [←f1,←e1,←e2]
   ·cases h
theorem D1c (x:FV):((M2 x.1.1 x.1.2=1∨I3 x.2=1∨x.2.size=0)∧T7 x=1)∨
  (¬(M2 x.1.1 x.1.2=1∨I3 x.2=1∨x.2.size=0)∧(M2 x.1.1 x.1.2=4∨M2 x.1.1 x.1.2=0∧I3 x.2=4)∧T7 x=4)∨
  (∃(z:Int) (d:Nat),x=((ng z,ab z),B2 d)∧d≠0∧(ab z).size≤1024∧(B2 d).size≤1024∧T7 x=if Nat.gcd z.natAbs d=1 then 0 else 1):=by
 by_cases c1:M2 x.1.1 x.1.2=1∨I3 x.2=1∨x.2.size=0
 ·exact Or.inl ⟨c1,if_pos c1⟩
 ·by_cases c2:M2 x.1.1 x.1.2≠0∨I3 x.2≠0
  ·refine Or.inr (Or.inl ⟨c1,?_,by unfold T7;rw [if_neg c1,if_pos c2]⟩)
   rw [not_or,not_or]at c1
   rcases E8j x.1.1 x.1.2 with h|h|h
   ·rcases D1l x.2 with g|g|g
    ·rw [h,g]at c2;simp at c2
    ·exact absurd g c1.2.1
    ·exact Or.inr ⟨h,g⟩
   ·exact absurd h c1.1
   ·exact Or.inl h
  ·have c2':=c2
   rw [not_or,Decidable.not_not,Decidable.not_not]at c2'
   obtain⟨z,e1,e2,e3⟩:=D7n c2'.1
   obtain⟨f1,f2⟩:=C9m c2'.2
   have hd:(L4 x.2).toNat≠0:=fun e=>c1 (Or.inr (Or.inr (by rw [f1,e];exact B1E.2 rfl)))
   have hb:(L4 x.1.2).toNat=z.natAbs:=by rw [e2];exact B6v _
   refine Or.inr (Or.inr ⟨z,(L4 x.2).toNat,by rw [←f1,←e1,←e2],hd,e3,by rw [←f1];exact f2,?_⟩)
   unfold T7;rw [if_neg c1,if_neg c2,hb]
theorem B4e (d:ByteArray):(d.toList==(⟨#[]⟩:ByteArray).toList)=decide (d.size=0):=by
 rw [Bool.eq_iff_iff,beq_iff_eq,decide_eq_true_eq,F8M,A4D]
theorem E5I (x:FV):Ev (fun k=>N4 k x) (T7 x):=by
 have h1:=E2Y x.1.1 x.1.2
 have h2:=Go.Proofs.YtijohnkgomcdbaaGreatN.Check_ev x.2
 rcases D1c x with⟨c,e⟩| ⟨c,c2,e⟩| ⟨z,d,rfl,hd,hz,hs,e⟩
 ·rw [e]
  by_cases c1:M2 x.1.1 x.1.2=1
  ·refine M1 (H0 h1 h2) ?_
   rintro k ⟨h1,h2⟩
   try dsimp only [fr]at h1 h2
   show N4 _ _=_
   unfold N4 A3P
   simp only [fr,s7,Y4,U6,Ya,Yb,Yc,Yd,Ye,Yf,Yg,Yh,Yi,Yj,Yk,Int.reduceEq,reduceCtorEq,Yl,Ym,Yn,Yo,Yp,Yq,Yr,Ys,Yt,Yu,Yv,Yw,Yx,Yy,Yz,YA,YB,YC,h1,h2,c1]
  ·by_cases c2:I3 x.2=1
   ·refine M1 (H0 h1 h2) ?_
    rintro k ⟨h1,h2⟩
    try dsimp only [fr]at h1 h2
    show N4 _ _=_
    unfold N4 A3P
    simp only [fr,s7,Y4,U6,Ya,Yb,Yc,Yd,Ye,Yf,Yg,Yh,Yi,Yj,Yk,Int.reduceEq,reduceCtorEq,Yl,Ym,Yn,Yo,Yp,Yq,Yr,Ys,Yt,Yu,Yv,Yw,Yx,Yy,Yz,YA,YB,YC,h1,h2,c1,c2,ite_self]
   ·have c3:x.2.size=0:=by rcases c with c|c|c;exact absurd c c1;exact absurd c c2;exact c
    refine M1 (H0 h1 h2) ?_
    rintro k ⟨h1,h2⟩
    try dsimp only [fr]at h1 h2
    show N4 _ _=_
    unfold N4 A3P
    simp only [fr,s7,Y4,U6,Ya,Yb,Yc,Yd,Ye,Yf,Yg,Yh,Yi,Yj,Yk,Int.reduceEq,reduceCtorEq,Yl,Ym,Yn,Yo,Yp,Yq,Yr,Ys,Yt,Yu,Yv,Yw,Yx,Yy,Yz,YA,YB,YC,h1,h2,c1,c2,c3,B4e]
 ·rw [not_or,not_or]at c
  rw [e]
  rcases c2 with c2| ⟨c2,c3⟩
  ·have c1:=c.2.1
   have c4:=c.2.2
   refine M1 (H0 h1 h2) ?_
   rintro k ⟨h1,h2⟩
   try dsimp only [fr]at h1 h2
   show N4 _ _=_
   unfold N4 A3P
   simp only [fr,s7,Y4,U6,Ya,Yb,Yc,Yd,Ye,Yf,Yg,Yh,Yi,Yj,Yk,Int.reduceEq,reduceCtorEq,Yl,Ym,Yn,Yo,Yp,Yq,Yr,Ys,Yt,Yu,Yv,Yw,Yx,Yy,Yz,YA,YB,YC,h1,h2,c1,c2,c4,B4e]
  ·have c4:=c.2.2
   refine M1 (H0 h1 h2) ?_
   rintro k ⟨h1,h2⟩
   try dsimp only [fr]at h1 h2
   show N4 _ _=_
   unfold N4 A3P
   simp only [fr,s7,Y4,U6,Ya,Yb,Yc,Yd,Ye,Yf,Yg,Yh,Yi,Yj,Yk,Int.reduceEq,reduceCtorEq,Yl,Ym,Yn,Yo,Yp,Yq,Yr,Ys,Yt,Yu,Yv,Yw,Yx,Yy,Yz,YA,YB,YC,h1,h2,c2,c3,c4,B4e]
 ·rw [e]
  have h3:=D2H (m:=z.natAbs) (n:=d) (Nat.le_trans hz (by decide)) (Nat.le_trans hs (by decide))
  have h3':Ev (fun k=>exact_NatGcd.f k (ab z) (B2 d)) _:=h3
  dsimp only at h1 h2
  rw [C8L hz]at h1
  rw [B8S hs]at h2
  by_cases c:d=1
  ·subst c
   have e1:Nat.gcd z.natAbs 1=1:=Nat.gcd_one_right _
   refine M1 (H0 h1 h2) ?_
   rintro k ⟨h1,h2⟩
   try dsimp only [fr]at h1 h2
   show N4 _ _=_
   unfold N4 A3P
   simp only [fr,s7,Y4,U6,Ya,Yb,Yc,Yd,Ye,Yf,Yg,Yh,Yi,Yj,Yk,Int.reduceEq,reduceCtorEq,Yl,Ym,Yn,Yo,Yp,Yq,Yr,Ys,Yt,Yu,Yv,Yw,Yx,Yy,Yz,YA,YB,YC,h1,h2,X8,B2W,e1]
  ·by_cases c5:Nat.gcd z.natAbs d=1
   ·refine M1 (H0 h1 (H0 h2 h3')) ?_
    rintro k ⟨h1,h2,h3'⟩
    try dsimp only [fr]at h1 h2 h3'
    show N4 _ _=_
    unfold N4 A3P
    simp only [fr,s7,Y4,U6,Ya,Yb,Yc,Yd,Ye,Yf,Yg,Yh,Yi,Yj,Yk,Int.reduceEq,reduceCtorEq,Yl,Ym,Yn,Yo,Yp,Yq,Yr,Ys,Yt,Yu,Yv,Yw,Yx,Yy,Yz,YA,YB,YC,h1,h2,h3',X8,B2W,hd,c,c5]
   ·refine M1 (H0 h1 (H0 h2 h3')) ?_
    rintro k ⟨h1,h2,h3'⟩
    try dsimp only [fr]at h1 h2 h3'
    show N4 _ _=_
    unfold N4 A3P
    simp only [fr,s7,Y4,U6,Ya,Yb,Yc,Yd,Ye,Yf,Yg,Yh,Yi,Yj,Yk,Int.reduceEq,reduceCtorEq,Yl,Ym,Yn,Yo,Yp,Yq,Yr,Ys,Yt,Yu,Yv,Yw,Yx,Yy,Yz,YA,YB,YC,h1,h2,h3',X8,B2W,hd,c,c5]
theorem D5s (x:FV):Ev (fun k=>M0 k x) (T7 x):=by
 have f1:=E1d x.1.1 x.1.2
 have f2:=D4J x.2
 have f3:=E1f x.1.1 x.1.2
 have f4:=D9U x.2
 have k1:decide ((x.1.2.size=0∨bt x.1.2 0≠0)∧¬(x.1.1=true∧x.1.2.size=0))=!decide (M2 x.1.1 x.1.2=1):=by
  rw [Bool.eq_iff_iff,decide_eq_true_eq,Bool.not_eq_true',decide_eq_false_iff_not]
  unfold M2
  by_cases g:I3 x.1.2=1
  ·rw [if_pos g]
   have:=B9W.1 g
   exact⟨fun q=>absurd q.1 this,fun q=>absurd rfl q⟩
  ·rw [if_neg g]
   have g2:x.1.2.size=0∨bt x.1.2 0≠0:=Decidable.not_not.1 fun q=>g (B9W.2 q)
   by_cases g3:x.1.1=true∧x.1.2.size=0
   ·rw [if_pos g3];exact⟨fun q=>absurd g3 q.2,fun q=>absurd rfl q⟩
   ·rw [if_neg g3];exact⟨fun _=>g,fun _=>⟨g2,g3⟩⟩
 have k2:decide (x.2.size=0∨bt x.2 0≠0)=!decide (I3 x.2=1):=by
  rw [Bool.eq_iff_iff,decide_eq_true_eq,Bool.not_eq_true',decide_eq_false_iff_not]
  constructor
  ·intro q r;exact B9W.1 r q
  ·intro q;exact Decidable.not_not.1 fun r=>q (B9W.2 r)
 rw [k1]at f1
 rw [k2]at f2
 rcases D1c x with⟨c,e⟩| ⟨c,c2,e⟩| ⟨z,d,rfl,hd,hz,hs,e⟩
 ·rw [e]
  have f5:c9=c9:=rfl
  by_cases c1:M2 x.1.1 x.1.2=1
  ·refine⟨0,fun k _=>?_⟩
   show M0 _ _=_
   unfold M0 A5C
   simp only [fr,A1M,i5,Y9,Ya,Yb,Yc,Yd,Ye,Yf,Yg,Yh,Yi,Yj,Yk,Int.reduceEq,reduceCtorEq,Yl,Ym,Yn,Yo,Yp,Yq,Yr,Ys,Yt,Yu,Yv,Yw,Yx,Yy,Yz,YA,YB,YC,f1,c1]
  ·by_cases c2:I3 x.2=1
   ·refine⟨0,fun k _=>?_⟩
    show M0 _ _=_
    unfold M0 A5C
    simp only [fr,A1M,i5,Y9,Ya,Yb,Yc,Yd,Ye,Yf,Yg,Yh,Yi,Yj,Yk,Int.reduceEq,reduceCtorEq,Yl,Ym,Yn,Yo,Yp,Yq,Yr,Ys,Yt,Yu,Yv,Yw,Yx,Yy,Yz,YA,YB,YC,f1,f2,c1,c2]
   ·have c3:x.2.size=0:=by rcases c with c|c|c;exact absurd c c1;exact absurd c c2;exact c
    refine⟨0,fun k _=>?_⟩
    show M0 _ _=_
    unfold M0 A5C
    simp only [fr,A1M,i5,Y9,Ya,Yb,Yc,Yd,Ye,Yf,Yg,Yh,Yi,Yj,Yk,Int.reduceEq,reduceCtorEq,Yl,Ym,Yn,Yo,Yp,Yq,Yr,Ys,Yt,Yu,Yv,Yw,Yx,Yy,Yz,YA,YB,YC,f1,f2,c1,c2,c3,B4e]
 ·rw [e]
  rw [not_or,not_or]at c
  have c1:=c.1
  have c3:=c.2.1
  have c4:=c.2.2
  have hf:Ev (fun k=>c9 k x) 4:=by
   by_cases g:(x.1.2.size:Int)>1024
   ·rw [if_pos g]at f3
    refine⟨0,fun k _=>?_⟩
    show c9 _ _=_
    unfold c9 B0x
    simp only [fr,A4C,w9,Ya,Yb,Yc,Yd,Ye,Yf,Yg,Yh,Yi,Yj,Yk,Int.reduceEq,reduceCtorEq,Yl,Ym,Yn,Yo,Yp,Yq,Yr,Ys,Yt,Yu,Yv,Yw,Yx,Yy,Yz,YA,YB,YC,f3]
   ·rw [if_neg g]at f3
    have g2:(x.2.size:Int)>1024:=by
     rcases c2 with c2| ⟨c2,c5⟩
     ·exfalso
      unfold M2 at c2 c1
      split at c2
      ·cases c2
      ·split at c2
       ·cases c2
       ·rename_i q1 q2
        rw [D4l q1,if_neg g]at c2;cases c2
     ·rw [D4l c3]at c5
      split at c5
      ·assumption
      ·cases c5
    rw [if_pos g2]at f4
    refine⟨0,fun k _=>?_⟩
    show c9 _ _=_
    unfold c9 B0x
    simp only [fr,A4C,w9,Ya,Yb,Yc,Yd,Ye,Yf,Yg,Yh,Yi,Yj,Yk,Int.reduceEq,reduceCtorEq,Yl,Ym,Yn,Yo,Yp,Yq,Yr,Ys,Yt,Yu,Yv,Yw,Yx,Yy,Yz,YA,YB,YC,f3,f4]
  refine M1 hf ?_
  rintro k hf
  try dsimp only [fr]at hf
  show M0 _ _=_
  unfold M0 A5C
  simp only [fr,A1M,i5,Y9,Ya,Yb,Yc,Yd,Ye,Yf,Yg,Yh,Yi,Yj,Yk,Int.reduceEq,reduceCtorEq,Yl,Ym,Yn,Yo,Yp,Yq,Yr,Ys,Yt,Yu,Yv,Yw,Yx,Yy,Yz,YA,YB,YC,hf,f1,f2,c1,c3,c4,B4e]
 ·rw [e]
  have h3:=rGcd_ev (m:=z.natAbs) (n:=d) (Nat.le_trans hz (by decide)) (Nat.le_trans hs (by decide))
  have h3':Ev (fun k=>galoisref01_Gcd.f k (ab z) (B2 d)) _:=h3
  dsimp only at f1 f2 f3 f4
  rw [C8L hz]at f1
  rw [B8S hs]at f2
  have g1:¬((ab z).size:Int)>1024:=by omega
  have g2:¬((B2 d).size:Int)>1024:=by omega
  rw [if_neg g1]at f3
  rw [if_neg g2]at f4
  have hf:Ev (fun k=>c9 k ((ng z,ab z),B2 d)) 0:=by
   refine⟨0,fun k _=>?_⟩
   show c9 _ _=_
   unfold c9 B0x
   simp only [fr,A4C,w9,Ya,Yb,Yc,Yd,Ye,Yf,Yg,Yh,Yi,Yj,Yk,Int.reduceEq,reduceCtorEq,Yl,Ym,Yn,Yo,Yp,Yq,Yr,Ys,Yt,Yu,Yv,Yw,Yx,Yy,Yz,YA,YB,YC,f3,f4]
  by_cases c5:Nat.gcd z.natAbs d=1
  ·refine M1 (H0 hf h3') ?_
   rintro k ⟨hf,h3'⟩
   try dsimp only [fr]at hf h3'
   show M0 _ _=_
   unfold M0 A5C
   simp only [fr,A1M,i5,Y9,Ya,Yb,Yc,Yd,Ye,Yf,Yg,Yh,Yi,Yj,Yk,Int.reduceEq,reduceCtorEq,Yl,Ym,Yn,Yo,Yp,Yq,Yr,Ys,Yt,Yu,Yv,Yw,Yx,Yy,Yz,YA,YB,YC,hf,h3',f1,f2,X8,B2W,hd,c5]
  ·refine M1 (H0 hf h3') ?_
   rintro k ⟨hf,h3'⟩
   try dsimp only [fr]at hf h3'
   show M0 _ _=_
   unfold M0 A5C
   simp only [fr,A1M,i5,Y9,Ya,Yb,Yc,Yd,Ye,Yf,Yg,Yh,Yi,Yj,Yk,Int.reduceEq,reduceCtorEq,Yl,Ym,Yn,Yo,Yp,Yq,Yr,Ys,Yt,Yu,Yv,Yw,Yx,Yy,Yz,YA,YB,YC,hf,h3',f1,f2,X8,B2W,hd,c5]
theorem len1 (x:FV):(([x]:List FV).length:Int)=1:=rfl
theorem len2 (x y:FV):(([x,y]:List FV).length:Int)=2:=rfl
def wide (n:Nat) (e:Nat):Bool:=decide (n≠0∧8192≤(bl n-1)*e)
end Go.Proofs.YtijohnkgomcdbaaGreatV
namespace Go.Proofs.YtijohnkgomcdbaaGreatV
open Go Go.RowKit YtijohnkgomcdbaaGreat YtijohnkgomcdbaaGreatE YtijohnkgomcdbaaGreatW.PrintWords YtijohnkgomcdbaaGreatW.PrintLast YtijohnkgomcdbaaGreatW.PrintMore
theorem E9i (k:Nat):A4T (k+300)=some true:=by kernel_rfl
theorem C0b:Ev (fun k=>A4T k) true:=⟨300,fun k hk=>by
 obtain⟨m,rfl⟩:=Nat.exists_eq_add_of_le' hk
 exact E9i m⟩
end Go.Proofs.YtijohnkgomcdbaaGreatV
set_option maxRecDepth 100000
namespace Go.Proofs.YtijohnkgomcdbaaGreatV
open Go Go.RowKit YtijohnkgomcdbaaGreat YtijohnkgomcdbaaGreatE YtijohnkgomcdbaaGreatN YtijohnkgomcdbaaGreat.All YtijohnkgomcdbaaGreatW.PrintWords YtijohnkgomcdbaaGreatW.PrintLast YtijohnkgomcdbaaGreatW.PrintMore
theorem Sm.mono {m n:Nat} {a:Rat} (h:Sm m a) (hmn:m≤n):Sm n a:=⟨Nat.le_trans h.1 hmn,Nat.le_trans h.2 hmn⟩
theorem Sm.mk_ {n:Int} {d s:Nat} (hn:(ab n).size≤s) (hd:(B2 d).size≤s) (h0:d≠0):Sm s (mkRat n d):=by
 have hg:Nat.gcd d n.natAbs≠0:=fun e=>h0 (Nat.gcd_eq_zero_iff.1 e).1
 constructor
 ·rw [Rat.num_mkRat,if_neg h0]
  obtain⟨c,hc⟩:=Nat.gcd_dvd_right d n.natAbs
  have hi:∃z:Int,n=(Nat.gcd d n.natAbs:Int)*z:=by
   have:(Nat.gcd d n.natAbs:Int)∣n:=Int.dvd_natAbs.1 (Int.natCast_dvd_natCast.2 (Nat.gcd_dvd_right d n.natAbs))
   exact this
  obtain⟨z,hz⟩:=hi
  have e:n/(Nat.gcd d n.natAbs:Int)=z:=by
   conv=>lhs;lhs;rw [hz]
   exact Int.mul_ediv_cancel_left _ (by omega)
  rw [e]
  refine Nat.le_trans (A4z ?_) hn
  have:n.natAbs=Nat.gcd d n.natAbs*z.natAbs:=by
   conv=>lhs;rw [hz]
   rw [Int.natAbs_mul,Int.natAbs_natCast]
  rw [this]
  exact Nat.le_mul_of_pos_left _ (Nat.pos_of_ne_zero hg)
 ·rw [Rat.den_mkRat,if_neg h0]
  exact Nat.le_trans (C2f _ _) hd
section
variable {a b:Rat} {m n:Nat}
theorem Sm.add (ha:Sm m a) (hb:Sm n b):Sm (m+n+1) (a+b):=by
 rw [Rat.add_def']
 refine Sm.mk_ (B6H (A1f ha.1 (n:=n) (by rw [Z1];exact hb.2)) (Nat.le_trans (A1f hb.1 (n:=m) (by rw [Z1];exact ha.2)) (by omega))) (Nat.le_trans (Y5 ha.2 hb.2) (by omega)) (Nat.mul_ne_zero a.den_nz b.den_nz)
theorem Sm.sub (ha:Sm m a) (hb:Sm n b):Sm (m+n+1) (a-b):=by rw [Rat.sub_eq_add_neg];exact ha.add hb.neg
theorem Sm.mul (ha:Sm m a) (hb:Sm n b):Sm (m+n) (a*b):=by
 rw [Rat.mul_def']
 exact Sm.mk_ (A1f ha.1 hb.1) (Y5 ha.2 hb.2) (Nat.mul_ne_zero a.den_nz b.den_nz)
end
theorem F6U {n d:Int} (hn:(ab n).size≤1099511627776) (hd:(ab d).size≤1099511627776) (h0:d≠0):Ev (fun k=>q8 k (ng n,ab n) (ng d,ab d)) (fr (Rat.divInt n d)):=by
 have h1:=Go.Proofs.YtijohnkgomcdbaaGreatN.rGcd_ev (m:=n.natAbs) (n:=d.natAbs) hn hd
 have hg:=Nat.pos_of_ne_zero (C1q (n:=n) h0)
 have sg_:(B2 (Nat.gcd n.natAbs d.natAbs)).size≤1099511627776:=Nat.le_trans (A4z (Nat.le_of_dvd (by omega) (Nat.gcd_dvd_right _ _))) hd
 have h2:=Go.Proofs.YtijohnkgomcdbaaGreatN.rDivMod_ev (m:=n.natAbs) hn sg_
 have h3:=Go.Proofs.YtijohnkgomcdbaaGreatN.rDivMod_ev (m:=d.natAbs) hd sg_
 rw [if_neg (Nat.ne_of_gt hg)]at h2 h3
 have f1:=B4U (ng n !=ng d) (n.natAbs/Nat.gcd n.natAbs d.natAbs)
 have f3:=B8t (n:=n) h0
 rw [←f3]
 have h1':Ev (fun k=>galoisref01_Gcd.f k (ab n) (ab d)) _:=h1
 have h2':Ev (fun k=>galoisref01_DivMod.f k (ab n) (B2 (Nat.gcd n.natAbs d.natAbs))) _:=h2
 have h3':Ev (fun k=>galoisref01_DivMod.f k (ab d) (B2 (Nat.gcd n.natAbs d.natAbs))) _:=h3
 refine M1 (H0 h1' (H0 h2' h3')) ?_
 rintro k ⟨h1',h2',h3'⟩
 try dsimp only [fr]at h1' h2' h3'
 show q8 _ _ _=_
 unfold q8 B9R
 simp only [fr,Y9,l9,A0C,Ya,Yb,Yc,Yd,Ye,Yf,Yg,Yh,Yi,Yj,Yk,Int.reduceEq,reduceCtorEq,Yl,Ym,Yn,Yo,Yp,Yq,Yr,Ys,Yt,Yu,Yv,Yw,Yx,Yy,Yz,YA,YB,YC,h1',h2',h3',B8b,C8l,f1,h0]
theorem D4X {n:Int} {d:Nat} (hn:(ab n).size≤1099511627776) (hd:(B2 d).size≤1099511627776) (h0:d≠0):Ev (fun k=>q8 k (ng n,ab n) (false,B2 d)) (fr (mkRat n d)):=by
 have h:=F6U (d:=(d:Int)) hn (by rw [Z1];exact hd) (by omega)
 rwa [B6B,Z1,Rat.divInt_ofNat]at h
theorem D1A {x:Int} {d:Nat} (hx:(ab x).size≤10000) (hd:(B2 d).size≤10000):Ev (fun k=>galoisref02_Mul.f k (ng x) (ab x) false (B2 d)) (ng (x*d),ab (x*d)):=by
 have h:=D5v (x:=x) (y:=(d:Int)) (Nat.le_trans hx (by decide)) (by rw [Z1];exact Nat.le_trans hd (by decide))
 rwa [B6B,Z1]at h
theorem D3S {d e:Nat} (hd:(B2 d).size≤10000) (he:(B2 e).size≤10000):Ev (fun k=>galoisref02_Mul.f k false (B2 d) false (B2 e)) (false,B2 (d*e)):=by
 have h:=D1A (x:=(d:Int)) (by rw [Z1];exact hd) he
 rwa [←Int.natCast_mul,B6B,Z1,B6B,Z1]at h
section
variable {a b:Rat}
theorem szD {x:Int} {d:Nat} (hx:(ab x).size≤10000) (hd:(B2 d).size≤10000):(ab (x*d)).size≤20000:=Nat.le_trans (A1f hx (n:=10000) (by rw [Z1];exact hd)) (by decide)
theorem D6b (ha:Sm 10000 a) (hb:Sm 10000 b):Ev (fun k=>P4 k (fr a) (fr b)) (fr (a+b)):=by
 have h1:=D1A ha.1 hb.2
 have h2:=D1A hb.1 ha.2
 have s1:=szD ha.1 hb.2
 have s2:=szD hb.1 ha.2
 have h3:=D9s (Nat.le_trans s1 (by decide)) (Nat.le_trans s2 (by decide))
 have h4:=D3S ha.2 hb.2
 have h5:=D4X (n:=a.num*b.den+b.num*a.den) (d:=a.den*b.den) (Nat.le_trans (B6H s1 s2) (by decide)) (Nat.le_trans (Y5 ha.2 hb.2) (by decide)) (Nat.mul_ne_zero a.den_nz b.den_nz)
 rw [←Rat.add_def']at h5
 by_cases h1d:a.den=1
 ·by_cases h2d:b.den=1
  ·have h6:=D9s (x:=a.num) (y:=b.num) (Nat.le_trans ha.1 (by decide)) (Nat.le_trans hb.1 (by decide))
   rw [←D7e h1d h2d]
   refine M1 h6 ?_
   rintro k h6
   try dsimp only [fr]at h6
   show P4 _ _ _=_
   unfold P4 B1H
   simp only [fr,g8,A5K,A3i,a9,g9,A4v,Ya,Yb,Yc,Yd,Ye,Yf,Yg,Yh,Yi,Yj,Yk,Int.reduceEq,reduceCtorEq,Yl,Ym,Yn,Yo,Yp,Yq,Yr,Ys,Yt,Yu,Yv,Yw,Yx,Yy,Yz,YA,YB,YC,h6,X8,h1d,h2d]
  ·refine M1 (H0 h1 (H0 h2 (H0 h3 (H0 h4 h5)))) ?_
   rintro k ⟨h1,h2,h3,h4,h5⟩
   try dsimp only [fr]at h1 h2 h3 h4 h5
   show P4 _ _ _=_
   unfold P4 B1H
   simp only [fr,g8,A5K,A3i,a9,g9,A4v,Ya,Yb,Yc,Yd,Ye,Yf,Yg,Yh,Yi,Yj,Yk,Int.reduceEq,reduceCtorEq,Yl,Ym,Yn,Yo,Yp,Yq,Yr,Ys,Yt,Yu,Yv,Yw,Yx,Yy,Yz,YA,YB,YC,h1,h2,h3,h4,h5,X8,h2d,ite_self]
 ·refine M1 (H0 h1 (H0 h2 (H0 h3 (H0 h4 h5)))) ?_
  rintro k ⟨h1,h2,h3,h4,h5⟩
  try dsimp only [fr]at h1 h2 h3 h4 h5
  show P4 _ _ _=_
  unfold P4 B1H
  simp only [fr,g8,A5K,A3i,a9,g9,A4v,Ya,Yb,Yc,Yd,Ye,Yf,Yg,Yh,Yi,Yj,Yk,Int.reduceEq,reduceCtorEq,Yl,Ym,Yn,Yo,Yp,Yq,Yr,Ys,Yt,Yu,Yv,Yw,Yx,Yy,Yz,YA,YB,YC,h1,h2,h3,h4,h5,X8,h1d]
theorem C3v (ha:Sm 10000 a) (hb:Sm 10000 b):Ev (fun k=>M4 k (fr a) (fr b)) (fr (a*b)):=by
 have h1:=D5v (Nat.le_trans ha.1 (by decide)) (Nat.le_trans hb.1 (by decide))
 have h2:=D3S ha.2 hb.2
 have h3:=D4X (n:=a.num*b.num) (d:=a.den*b.den) (Nat.le_trans (A1f ha.1 hb.1) (by decide)) (Nat.le_trans (Y5 ha.2 hb.2) (by decide)) (Nat.mul_ne_zero a.den_nz b.den_nz)
 rw [←Rat.mul_def']at h3
 by_cases h1d:a.den=1
 ·by_cases h2d:b.den=1
  ·rw [←D9B h1d h2d]
   refine M1 h1 ?_
   rintro k h1
   try dsimp only [fr]at h1
   show M4 _ _ _=_
   unfold M4 B0l
   simp only [fr,g8,A5K,a9,g9,A4v,Ya,Yb,Yc,Yd,Ye,Yf,Yg,Yh,Yi,Yj,Yk,Int.reduceEq,reduceCtorEq,Yl,Ym,Yn,Yo,Yp,Yq,Yr,Ys,Yt,Yu,Yv,Yw,Yx,Yy,Yz,YA,YB,YC,h1,X8,h1d,h2d]
  ·refine M1 (H0 h1 (H0 h2 h3)) ?_
   rintro k ⟨h1,h2,h3⟩
   try dsimp only [fr]at h1 h2 h3
   show M4 _ _ _=_
   unfold M4 B0l
   simp only [fr,g8,A5K,a9,g9,A4v,Ya,Yb,Yc,Yd,Ye,Yf,Yg,Yh,Yi,Yj,Yk,Int.reduceEq,reduceCtorEq,Yl,Ym,Yn,Yo,Yp,Yq,Yr,Ys,Yt,Yu,Yv,Yw,Yx,Yy,Yz,YA,YB,YC,h1,h2,h3,X8,h2d,ite_self]
 ·refine M1 (H0 h1 (H0 h2 h3)) ?_
  rintro k ⟨h1,h2,h3⟩
  try dsimp only [fr]at h1 h2 h3
  show M4 _ _ _=_
  unfold M4 B0l
  simp only [fr,g8,A5K,a9,g9,A4v,Ya,Yb,Yc,Yd,Ye,Yf,Yg,Yh,Yi,Yj,Yk,Int.reduceEq,reduceCtorEq,Yl,Ym,Yn,Yo,Yp,Yq,Yr,Ys,Yt,Yu,Yv,Yw,Yx,Yy,Yz,YA,YB,YC,h1,h2,h3,X8,h1d]
theorem E9V (h:a≠0):a.num≠0:=fun e=>h (Rat.num_eq_zero.1 e)
theorem F7N (h:a≠0):Ev (fun k=>A3Y k (fr a)) (fr a⁻¹):=by
 have h0:=E9V h
 rw [C2l h]
 refine⟨0,fun k _=>?_⟩
 show A3Y _ _=_
 unfold A3Y C0G
 simp only [fr,Ya,Yb,Yc,Yd,Ye,Yf,Yg,Yh,Yi,Yj,Yk,Int.reduceEq,reduceCtorEq,Yl,Ym,Yn,Yo,Yp,Yq,Yr,Ys,Yt,Yu,Yv,Yw,Yx,Yy,Yz,YA,YB,YC,B8b,h0]
theorem F1c (ha:Sm 10000 a) (hb:Sm 10000 b) (h:b≠0):Ev (fun k=>A0L k (fr a) (fr b)) (fr (a/b)):=by
 have h1:=F7N h
 have h2:=C3v ha (hb.inv h)
 rw [←Rat.div_def]at h2
 refine M1 (H0 h1 h2) ?_
 rintro k ⟨h1,h2⟩
 try dsimp only [fr]at h1 h2
 show A0L _ _ _=_
 unfold A0L B99
 simp only [fr,Ya,Yb,Yc,Yd,Ye,Yf,Yg,Yh,Yi,Yj,Yk,Int.reduceEq,reduceCtorEq,Yl,Ym,Yn,Yo,Yp,Yq,Yr,Ys,Yt,Yu,Yv,Yw,Yx,Yy,Yz,YA,YB,YC,h1,h2]
end
theorem D5r:Sm 1 0:=⟨by decide +kernel,by decide +kernel⟩
end Go.Proofs.YtijohnkgomcdbaaGreatV
set_option maxRecDepth 100000
namespace Go.Proofs.YtijohnkgomcdbaaGreatV
open Go Go.RowKit Go.Proofs.YtijohnkgomcdbaaGreat Go.Proofs.YtijohnkgomcdbaaGreatE Go.Proofs.YtijohnkgomcdbaaGreatN Go.Proofs.YtijohnkgomcdbaaGreat.All Go.Proofs.YtijohnkgomcdbaaGreatW.PrintWords Go.Proofs.YtijohnkgomcdbaaGreatW.PrintLast Go.Proofs.YtijohnkgomcdbaaGreatW.PrintMore
abbrev FP:=List FV
abbrev d0:FV:=((false,(⟨#[]⟩:ByteArray)),(⟨#[]⟩:ByteArray))
theorem C1 {β:Type} {c:Prop} [Decidable c] {a b:Nat→Option β} {r:β} (h:c) (k:Ev a r):Ev (fun n=>if c then a n else b n) r:=Ev.congr (fun n=>if_pos h) k
theorem C7 {β:Type} {c:Prop} [Decidable c] {a b:Nat→Option β} {r:β} (h:¬c) (k:Ev b r):Ev (fun n=>if c then a n else b n) r:=Ev.congr (fun n=>if_neg h) k
theorem A5u {β:Type} {c:Bool} {a b:Nat→Option β} {r:β} (h:c=true) (k:Ev a r):Ev (fun n=>B3 c (a n) (b n)) r:=by subst h;exact k
theorem n7 {β:Type} {c:Bool} {a b:Nat→Option β} {r:β} (h:c=false) (k:Ev b r):Ev (fun n=>B3 c (a n) (b n)) r:=by subst h;exact k
theorem N5 {β:Type} {i n m:Int} {a b:Nat→Option β} {r:β} (h1:i<n) (h0:0≤i) (h2:i<m) (k:Ev a r):Ev (fun x=>if i<n then(if 0≤i then(if i<m then a x else none)else none)else b x) r:=C1 h1 (C1 h0 (C1 h2 k))
theorem L7 {β:Type} {i m:Int} {a:Nat→Option β} {r:β} (h0:0≤i) (h2:i<m) (k:Ev a r):Ev (fun x=>if 0≤i then(if i<m then a x else none)else none) r:=C1 h0 (C1 h2 k)
theorem F4 {β:Type} {c d:Prop} [Decidable c] [Decidable d] {a b:Nat→Option β} {r1 r2:β} (e:c↔d) (h1:d→Ev a r1) (h2:¬d→Ev b r2):Ev (fun n=>if c then a n else b n) (if d then r1 else r2):=by
  by_cases h:d
  · rw [if_pos h];exact C1 (e.2 h) (h1 h)
  · rw [if_neg h];exact C7 (fun x=>h (e.1 x)) (h2 h)
theorem A4I {β:Type} {c:Bool} {a b:Nat→Option β} {r1 r2:β} (h1:c=true→Ev a r1) (h2:c=false→Ev b r2):Ev (fun n=>B3 c (a n) (b n)) (if c=true then r1 else r2):=by
  cases c with
  |true=>exact h1 rfl
  |false=>exact h2 rfl
theorem I4 {x:Int} (h1: -9223372036854775808≤x) (h2:x<9223372036854775808):wrap64 x=x:=by unfold wrap64;omega
theorem B6g {α:Type} {d:α} (pre:List α) (a:α) (post:List α):C4 d (pre++a::post) (pre.length:Int)=a:=by
  unfold C4;rw [Int.toNat_natCast,List.getD_eq_getElem?_getD,List.getElem?_append_right (Nat.le_refl _)];simp
theorem D5a {α S R:Type} {d:α} {l:List α} (hl:l.length<1099511627776) (g:Nat→Int→S→Option R) (F:Nat→S→List α→R) (I:Nat→S→Prop)
    (hT:∀s,I l.length s→Ev (fun k=>g (k+1) (l.length:Int) s) (F l.length s []))
    (hC:∀pre a post s,l=pre++a::post→(pre.length:Int)<l.length→C4 d l (pre.length:Int)=a→I pre.length s→
      (∀s',I (pre.length+1) s'→Ev (fun k=>g k (wrap64 ((pre.length:Int)+1)) s') (F (pre.length+1) s' post))→Ev (fun k=>g (k+1) (pre.length:Int) s) (F pre.length s (a::post))):
    ∀(post pre:List α) (s:S),l=pre++post→I pre.length s→Ev (fun k=>g k (pre.length:Int) s) (F pre.length s post)
  | [],pre,s,hp,hI=>by
    have e:l.length=pre.length:=by rw [hp,List.append_nil]
    refine Ev.step (f:=fun k=>g (k+1) (pre.length:Int) s) (fun k=>rfl) ?_
    have:=hT s (by rw [e];exact hI)
    rwa [e]at this
  | a::post,pre,s,hp,hI=>by
    have e:l.length=pre.length+post.length+1:=by rw [hp,List.length_append,List.length_cons];omega
    refine Ev.step (f:=fun k=>g (k+1) (pre.length:Int) s) (fun k=>rfl) ?_
    refine hC pre a post s hp (by omega) (by rw [hp];exact B6g pre a post) hI fun s' hI'=>?_
    have h:=D5a hl g F I hT hC post (pre++[a]) s' (by rw [hp,List.append_assoc];rfl) (by rw [List.length_append];exact hI')
    have e3:wrap64 ((pre.length:Int)+1)=((pre++[a]).length:Int):=by rw [I4 (by omega) (by omega),List.length_append];rfl
    rw [e3]
    rwa [show(pre++[a]).length=pre.length+1 from by rw [List.length_append];rfl]at h⊢
theorem Y1 {α S R:Type} {d:α} {l:List α} (hl:l.length<1099511627776) (g:Nat→Int→S→Option R) (F:Nat→S→List α→R) (I:Nat→S→Prop) (s:S) (h0:I 0 s)
    (hT:∀s,I l.length s→Ev (fun k=>g (k+1) (l.length:Int) s) (F l.length s []))
    (hC:∀pre a post s,l=pre++a::post→(pre.length:Int)<l.length→C4 d l (pre.length:Int)=a→I pre.length s→
      (∀s',I (pre.length+1) s'→Ev (fun k=>g k (wrap64 ((pre.length:Int)+1)) s') (F (pre.length+1) s' post))→Ev (fun k=>g (k+1) (pre.length:Int) s) (F pre.length s (a::post))):
    Ev (fun k=>g k 0 s) (F 0 s l):=D5a hl g F I hT hC l [] s rfl h0
theorem B4T {α:Type} {d:α} {l:List α} (hl:l.length<1099511627776) (hne:l≠[]):∃x,l.getLast?=some x∧(0:Int)<l.length∧0≤wrap64 ((l.length:Int)-1)∧wrap64 ((l.length:Int)-1)<(l.length:Int)∧C4 d l (wrap64 ((l.length:Int)-1))=x:=by
  have e:=List.dropLast_concat_getLast hne
  have hp:0<l.length:=List.length_pos_iff.2 hne
  have w:wrap64 ((l.length:Int)-1)=((l.dropLast.length:Nat):Int):=by rw [I4 (by omega) (by omega),List.length_dropLast];omega
  refine⟨l.getLast hne,List.getLast?_eq_some_getLast hne,by omega,by rw [w];omega,by rw [w,List.length_dropLast];omega,?_⟩
  rw [w]
  conv=>lhs;rw [←e]
  have:=B6g (d:=d) l.dropLast (l.getLast hne) []
  simpa using this
def P3 {α:Type} (ck:α→Int) (t:Int):List α→Int
  | []=>t
  |a::l=>if ck a≠0 then ck a else P3 ck t l
theorem D9W {α:Type} {ck:α→Int} {t:Int}:∀{l:List α},P3 ck t l=0→(∀x,x∈l→ck x=0)∧t=0
  | [],h=>⟨fun _ hx=>by simp at hx,h⟩
  | a::l,h=>by
    unfold P3 at h
    by_cases c:ck a≠0
    · rw [if_pos c]at h;exact absurd h c
    · rw [if_neg c]at h
      have ih:=D9W h
      exact⟨fun x hx=>by rcases List.mem_cons.1 hx with rfl|hx;exact Decidable.not_not.1 c;exact ih.1 x hx,ih.2⟩
def zq (x:FV):Bool:=E6 x.1.2 ⟨#[]⟩
def A5s (f:FP):Int:=match f.getLast? with|none=>0|some x=>if zq x=true then 1 else 0
def Y7 (f:FP):Int:=if 65<f.length then 4 else P3 T7 (A5s f) f
theorem E3h {x:FV} (h:T7 x=0):Ev (fun k=>S1 k x) (if zq x=true then 0 else if x.1.1=true then -1 else 1):=by
  obtain⟨a,rfl,_⟩:=D2L h
  have f1:=D1k a.num
  have e:zq (fr a)=decide (a.num=0):=by unfold zq fr;rw [F1];exact B8b a.num
  rw [e]
  have e2:(if decide (a.num=0)=true then(0:Int)else if(fr a).1.1=true then -1 else 1)=sgn a.num:=by
    unfold sgn fr ng
    by_cases c:a.num=0
    · simp [c]
    · by_cases c2:a.num<0<;>simp [c,c2]
  rw [e2]
  refine⟨0,fun k _=>?_⟩
  show S1 _ _=_
  unfold S1 B3J
  simp only [fr,A5Q,Ya,Yb,Yc,Yd,Ye,Yf,Yg,Yh,Yi,Yj,Yk,Int.reduceEq,reduceCtorEq,Yl,Ym,Yn,Yo,Yp,Yq,Yr,Ys,Yt,Yu,Yv,Yw,Yx,Yy,Yz,YA,YB,YC,f1]
theorem B7z (x:FV):Ev (fun k=>J3 k x) (zq x):=Ev.now _
theorem F0n {α:Type} {l pre post:List α} {a:α} {p:α→Prop} (h:l=pre++a::post) (h1:∀x,x∈l.take pre.length→p x) (h2:p a):∀x,x∈l.take (pre.length+1)→p x:=by
  subst h
  intro x hx
  have e:(pre++a::post).take (pre.length+1)=pre++[a]:=by rw [List.take_append,List.take_of_length_le (Nat.le_succ _)];simp
  rw [e,List.mem_append]at hx
  rcases hx with hx|hx
  · exact h1 x (by rw [List.take_left];exact hx)
  · rw [List.mem_singleton.1 hx];exact h2
theorem D5E (f:FP):Ev (fun k=>A0H k f) (Y7 f):=by
  show Ev (fun k=>B3Q (A0g k) _) _
  unfold B3Q
  refine F4 (by omega) (fun _=>Ev.now _) fun c=>Y1 (d:=d0) (by omega) (fun k i (_:Unit)=>A0g k f f (f.length:Int) i) (fun _ _=>P3 T7 (A5s f)) (fun _ _=>True) () trivial ?_ ?_
  · intro _ _
    show Ev (fun k=>A9k (A0g k) (J3 k) (N4 k) _ _ _ _) _
    unfold A9k
    refine C7 (Int.lt_irrefl _) ?_
    show Ev _ (A5s f)
    unfold A5s
    by_cases hn:f=[]
    · subst hn;exact C7 (by simp) (Ev.now _)
    · obtain⟨x,h1,h2,h3,h4,h5⟩:=B4T (d:=d0) (by omega:f.length<1099511627776) hn
      rw [h5,h1]
      exact C1 h2 (C1 h3 (C1 h4 (Ev.bind (B7z x) (A4I (fun _=>Ev.now _) fun _=>Ev.now _))))
  · intro pre a post _ hp hi hr _ ih
    show Ev (fun k=>A9k (A0g k) (J3 k) (N4 k) _ _ _ _) _
    unfold A9k
    refine N5 hi (by omega) hi ?_
    rw [hr]
    exact Ev.bind (E5I a) (F4 Iff.rfl (fun _=>Ev.now _) fun _=>ih () trivial)
theorem C2D (f:FP):Ev (fun k=>T6 k f) (Y7 f):=by
  show Ev (fun k=>B69 (A1I k) _) _
  unfold B69
  refine F4 (by omega) (fun _=>Ev.now _) fun c=>Y1 (d:=d0) (by omega) (fun k i (_:Unit)=>A1I k f f (f.length:Int) i) (fun _ _=>P3 T7 (A5s f)) (fun n _=>∀x,x∈f.take n→T7 x=0) () (by simp) ?_ ?_
  · intro _ hI
    show Ev (fun k=>A7T (A1I k) (S1 k) (M0 k) _ _ _ _) _
    unfold A7T
    refine C7 (Int.lt_irrefl _) ?_
    show Ev _ (A5s f)
    unfold A5s
    by_cases hn:f=[]
    · subst hn;exact C7 (by simp) (Ev.now _)
    · obtain⟨x,h1,h2,h3,h4,h5⟩:=B4T (d:=d0) (by omega:f.length<1099511627776) hn
      rw [h5,h1]
      refine C1 h2 (C1 h3 (C1 h4 (Ev.bind (E3h (hI x (by rw [List.take_length];exact List.mem_of_getLast? h1))) ?_)))
      show Ev _ (if zq x=true then 1 else 0)
      cases zq x with
      |true=>exact C1 rfl (Ev.now _)
      |false=>cases x.1.1<;>exact C7 (by decide) (Ev.now _)
  · intro pre a post _ hp hi hr hI ih
    show Ev (fun k=>A7T (A1I k) (S1 k) (M0 k) _ _ _ _) _
    unfold A7T
    refine N5 hi (by omega) hi ?_
    rw [hr]
    exact Ev.bind (D5s a) (F4 Iff.rfl (fun _=>Ev.now _) fun c2=>ih () (F0n hp hI (Decidable.not_not.1 c2)))
end Go.Proofs.YtijohnkgomcdbaaGreatV
set_option maxRecDepth 100000
namespace Go.Proofs.YtijohnkgomcdbaaGreatV
open Go Go.RowKit YtijohnkgomcdbaaGreat YtijohnkgomcdbaaGreatE YtijohnkgomcdbaaGreatN YtijohnkgomcdbaaGreat.All YtijohnkgomcdbaaGreatW.PrintWords YtijohnkgomcdbaaGreatW.PrintLast YtijohnkgomcdbaaGreatW.PrintMore
theorem Sm.quo {n d:Int} {s:Nat} (hn:(ab n).size≤s) (hd:(ab d).size≤s) (h0:d≠0):Sm s (Rat.divInt n d):=by
 have e:=B8t (n:=n) h0
 unfold fr at e
 rw [Prod.mk.injEq,Prod.mk.injEq,B7h]at e
 exact⟨by rw [←e.1.2];exact Nat.le_trans (C2f _ _) hn,by rw [←e.2];exact Nat.le_trans (C2f _ _) hd⟩
theorem F3M {x:Int} (h1: -9223372036854775808≤x) (h2:x<9223372036854775808):Ev (fun k=>exact_IntOf.f k x) (ng x,ab x):=by
 by_cases h:x<0
 ·rw [A4h h]
  have e:IntKind.u64.wrap (-(IntKind.u64.wrap x))=((x.natAbs:Nat):Int):=by
   rw [IntKind.wrap_u64,IntKind.wrap_u64]
   omega
  have:=D5C (u:=x.natAbs) (by omega)
  rw [←e]at this
  exact Ev.congr (fun k=>if_pos h) (Ev.bind this (Ev.now _))
 ·rw [A5A (by omega)]
  have e:IntKind.u64.wrap x=((x.natAbs:Nat):Int):=by
   rw [IntKind.wrap_u64]
   omega
  have:=D5C (u:=x.natAbs) (by omega)
  rw [←e]at this
  exact Ev.congr (fun k=>if_neg h) (Ev.bind this (Ev.now _))
end Go.Proofs.YtijohnkgomcdbaaGreatV
set_option maxRecDepth 100000
namespace Go.Proofs.YtijohnkgomcdbaaGreatV
open Go Go.RowKit Go.Proofs.YtijohnkgomcdbaaGreat Go.Proofs.YtijohnkgomcdbaaGreatE Go.Proofs.YtijohnkgomcdbaaGreatN Go.Proofs.YtijohnkgomcdbaaGreat.All Go.Proofs.YtijohnkgomcdbaaGreatW.PrintWords Go.Proofs.YtijohnkgomcdbaaGreatW.PrintLast Go.Proofs.YtijohnkgomcdbaaGreatW.PrintMore
theorem C0r {i:Int} (h1: -9223372036854775808≤i) (h2:i<9223372036854775808):Ev (fun k=>E2 k i) (fr (i:Rat)):=by
  have h:=F3M h1 h2
  rw [B9k,B1Q]
  refine M1 h ?_
  rintro k h
  try dsimp only [fr]at h
  show E2 _ _=_
  unfold E2 B89
  simp only [fr,T4,A4H,A5o,Ya,Yb,Yc,Yd,Ye,Yf,Yg,Yh,Yi,Yj,Yk,Int.reduceEq,reduceCtorEq,Yl,Ym,Yn,Yo,Yp,Yq,Yr,Ys,Yt,Yu,Yv,Yw,Yx,Yy,Yz,YA,YB,YC,h]
theorem B4Y {i:Int} (h1: -9223372036854775808≤i) (h2:i<9223372036854775808):Ev (fun k=>E9 k i) (fr (i:Rat)):=by
  have h:=E5Y h1 h2
  rw [B9k,B1Q]
  refine M1 h ?_
  rintro k h
  try dsimp only [fr]at h
  show E9 _ _=_
  unfold E9 B81
  simp only [fr,A7N,Ya,Yb,Yc,Yd,Ye,Yf,Yg,Yh,Yi,Yj,Yk,Int.reduceEq,reduceCtorEq,Yl,Ym,Yn,Yo,Yp,Yq,Yr,Ys,Yt,Yu,Yv,Yw,Yx,Yy,Yz,YA,YB,YC,h]
def ix {α:Type} (p:α→Bool):Nat→List α→Int
  |_,[]=> -1
  |n,a::l=>if p a=true then(n:Int)else ix p (n+1) l
theorem B3Z {α:Type} (p:α→Bool):∀(l:List α) (n:Nat),decide (ix p n l≥0)=l.any p
  | [],n=>rfl
  | a::l,n=>by
    unfold ix
    rw [List.any_cons]
    cases hp:p a with
    |true=>rw [if_pos rfl];simp
    |false=>rw [if_neg (by decide),B3Z p l,Bool.false_or]
theorem C7r {f:FP} (h:Y7 f=0):f.length≤65:=by
  unfold Y7 at h
  by_cases c:65<f.length
  · rw [if_pos c]at h;cases h
  · omega
def A9w (x:FV):Bool:=(((x.1.1==(fr ((1:Int):Rat)).1.1)&&(E6 x.1.2 (fr ((1:Int):Rat)).1.2))&&(E6 x.2 (fr ((1:Int):Rat)).2))
def B0k (m:FP):Bool:=match m.getLast? with|none=>false|some x=>A9w x
def wh (x:FV):Bool:=E6 x.2 ⟨#[1]⟩
def form (m:FP):Int:=if Y7 m≠0 then Y7 m else if m.length<2 then 1 else if(!B0k m)=true then 1 else if(!m.all wh)=true then 1 else if 25<m.length then 4 else 0
theorem F2h {m:FP} (hl:m.length<1099511627776):Ev (fun k=>A6A k m) (ix (fun x=>!wh x) 0 m):=by
  show Ev (fun k=>B5B (A0o k) _) _
  unfold B5B
  refine Y1 (d:=d0) hl (fun k i (_:Unit)=>A0o k m (m.length:Int) i) (fun n _ l=>ix (fun x=>!wh x) n l) (fun _ _=>True) () trivial ?_ ?_
  · intro _ _
    show Ev (fun k=>A9r (A0o k) (A2c k) _ _ _) _
    unfold A9r
    exact C7 (Int.lt_irrefl _) (Ev.now _)
  · intro pre a post _ hp hi hr _ ih
    show Ev (fun k=>A9r (A0o k) (A2c k) _ _ _) _
    unfold A9r
    refine N5 hi (by omega) hi ?_
    rw [hr]
    have h1:Ev (fun k=>A2c k a) (!wh a):=Ev.now _
    exact Ev.bind h1 (A4I (fun _=>Ev.now _) fun _=>ih () trivial)
theorem E1W {α:Type} (p:α→Bool) (l:List α):l.any (fun x=>!p x)=!l.all p:=by
  induction l with
  |nil=>rfl
  |cons a l ih=>rw [List.any_cons,List.all_cons,ih,Bool.not_and]
theorem D3V {m:FP} {x:FV} (h1:m.getLast?=some x):B0k m=A9w x:=by unfold B0k;rw [h1]
theorem F7b (m:FP):Ev (fun k=>A3y k m) (form m):=by
  show Ev (fun k=>B6A (E2 k) (A0H k) (A5R k) _) _
  unfold B6A
  refine Ev.bind (D5E m) (F4 Iff.rfl (fun _=>Ev.now _) fun c=>?_)
  have hl:=C7r (Decidable.not_not.1 c)
  have w:wrap64 ((m.length:Int)-1)=(m.length:Int)-1:=I4 (by omega) (by omega)
  refine F4 (by rw [w];omega) (fun _=>Ev.now _) fun c2=>?_
  obtain⟨x,h1,h2,h3,h4,h5⟩:=B4T (d:=d0) (by omega:m.length<1099511627776) (fun e=>c2 (by rw [e];decide))
  refine C1 h3 (C1 h4 (Ev.bind (C0r (by decide) (by decide)) ?_))
  rw [h5,D3V h1]
  refine A4I (c:=!A9w x) (fun _=>Ev.now _) fun _=>?_
  have h6:Ev (fun k=>A5R k m) (!m.all wh):=by
    rw [←E1W,←B3Z _ _ 0]
    exact Ev.bind (F2h (by omega)) (Ev.now _)
  refine Ev.bind h6 (A4I (fun _=>Ev.now _) fun _=>?_)
  exact F4 (by rw [w];omega) (fun _=>Ev.now _) fun _=>Ev.now _
theorem C9j {m:FP} (hl:m.length<1099511627776):Ev (fun k=>R0 k m) ((m.length:Int)-1):=by
  have w:wrap64 ((m.length:Int)-1)=(m.length:Int)-1:=I4 (by omega) (by omega)
  show Ev (fun k=>some (wrap64 ((m.length:Int)-1))) _
  rw [w];exact Ev.now _
theorem A7n (m:FP):Ev (fun k=>I5 k m) (form m):=by
  show Ev (fun k=>B13 (A0w k) (T6 k) (Z7 k) (E9 k) _) _
  unfold B13
  refine Ev.bind (C2D m) (F4 Iff.rfl (fun _=>Ev.now _) fun c=>?_)
  have hl:=C7r (Decidable.not_not.1 c)
  refine F4 (by omega) (fun _=>Ev.now _) fun c2=>?_
  obtain⟨x,h1,h2,h3,h4,h5⟩:=B4T (d:=d0) (by omega:m.length<1099511627776) (fun e=>c2 (by rw [e];decide))
  have hL:Ev (fun k=>Z7 k m) x:=by
    show Ev (fun k=>B80 (E9 k) _) _
    unfold B80
    refine C7 (by omega) (C1 h3 (C1 h4 ?_))
    rw [h5];exact Ev.now x
  refine Ev.bind hL (Ev.bind (B4Y (by decide) (by decide)) ?_)
  rw [D3V h1]
  refine A4I (c:=!A9w x) (fun _=>Ev.now _) fun _=>?_
  refine Y1 (d:=d0) (by omega) (fun k i (_:Unit)=>A0w k m (m.length:Int) i m) (fun _ _ l=>if(!l.all wh)=true then 1 else if 25<m.length then 4 else 0) (fun _ _=>True) () trivial ?_ ?_
  · intro _ _
    show Ev (fun k=>A8b (A0w k) (R0 k) (A2u k) _ _ _ _) _
    unfold A8b
    refine C7 (Int.lt_irrefl _) (Ev.bind (C9j (by omega)) ?_)
    show Ev _ (if 25<m.length then(4:Int)else 0)
    exact F4 (by show(m.length:Int)-1>24↔_;omega) (fun _=>Ev.now _) fun _=>Ev.now _
  · intro pre a post _ hp hi hr _ ih
    show Ev (fun k=>A8b (A0w k) (R0 k) (A2u k) _ _ _ _) _
    unfold A8b
    refine N5 hi (by omega) hi ?_
    rw [hr,List.all_cons]
    have h6:Ev (fun k=>A2u k a) (wh a):=Ev.now _
    refine Ev.bind h6 ?_
    cases h:wh a with
    |false=>exact A5u rfl (Ev.now _)
    |true=>rw [Bool.true_and];exact n7 rfl (ih () trivial)
theorem B6X {m:FP} (h:form m=0):Y7 m=0∧2≤m.length∧m.length≤25:=by
  unfold form at h
  by_cases c:Y7 m≠0
  · rw [if_pos c]at h;exact absurd h c
  · rw [if_neg c]at h
    by_cases c2:m.length<2
    · rw [if_pos c2]at h;cases h
    · rw [if_neg c2]at h
      split at h
      · cases h
      · split at h
        · cases h
        · split at h
          · cases h
          · exact⟨Decidable.not_not.1 c,by omega,by omega⟩
def v8 (m a:FP):Int:=if Y7 a≠0 then Y7 a else if m.length≤a.length then 3 else 0
theorem B5N (m a:FP):Ev (fun k=>M7 k m a) (v8 m a):=by
  show Ev (fun k=>B4s (A0H k) _ _) _
  unfold B4s
  exact Ev.bind (D5E a) (F4 Iff.rfl (fun _=>Ev.now _) fun c=>F4 (by omega) (fun _=>Ev.now _) fun _=>Ev.now _)
theorem C5d {m:FP} (a:FP) (hm:form m=0):Ev (fun k=>T2 k m a) (v8 m a):=by
  show Ev (fun k=>B55 (I5 k) (R0 k) (T6 k) _ _) _
  unfold B55
  unfold v8
  have hl:=B6X hm
  have h1:=A7n m
  rw [hm]at h1
  refine Ev.bind h1 (C7 (by decide) (Ev.bind (C2D a) ?_))
  by_cases c:Y7 a=0
  · rw [c]
    exact C1 rfl (Ev.bind (C9j (by omega)) (F4 (d:=m.length≤a.length) (by omega) (fun _=>Ev.now _) fun _=>Ev.now _))
  · have:=C7 (a:=fun k=>(R0 k m).bind fun r3=>(if(a.length:Int)>r3 then(some 3)else(some (Y7 a)))) c (Ev.now (Y7 a))
    rw [if_pos c];exact this
def B4W (f:List FP):Int:=match f.getLast? with|none=>0|some x=>if x.length=0 then 1 else 0
def fck (m:FP) (f:List FP):Int:=if 65<f.length then 4 else P3 (v8 m) (B4W f) f
def U3 (m:FP) (f:List FP):Int:=if form m≠0 then form m else fck m f
theorem D9m {f:List FP} (hl:f.length<1099511627776):Ev (fun(k:Nat)=>if(f.length:Int)>0 then(if 0≤wrap64 ((f.length:Int)-1)then(if wrap64 ((f.length:Int)-1)<(f.length:Int)then(if((C4 ([]:FP) f (wrap64 ((f.length:Int)-1))).length:Int)=0 then(some 1)else(some 0))else(none))else(none))else(some (0:Int))) (B4W f):=by
  unfold B4W
  by_cases hn:f=[]
  · subst hn;exact C7 (by simp) (Ev.now _)
  · obtain⟨x,h1,h2,h3,h4,h5⟩:=B4T (d:=([]:FP)) hl hn
    rw [h5,h1]
    exact C1 h2 (C1 h3 (C1 h4 (F4 (by omega) (fun _=>Ev.now _) fun _=>Ev.now _)))
theorem E5N (m:FP) (f:List FP):Ev (fun k=>A2o k m f) (fck m f):=by
  show Ev (fun k=>B5A (A0S k) _ _) _
  unfold B5A
  refine F4 (by omega) (fun _=>Ev.now _) fun c=>Y1 (d:=([]:FP)) (by omega) (fun k i (_:Unit)=>A0S k f f (f.length:Int) i m) (fun _ _=>P3 (v8 m) (B4W f)) (fun _ _=>True) () trivial ?_ ?_
  · intro _ _
    show Ev (fun k=>A9G (A0S k) (M7 k) _ _ _ _ _) _
    unfold A9G
    exact C7 (Int.lt_irrefl _) (D9m (by omega))
  · intro pre a post _ hp hi hr _ ih
    show Ev (fun k=>A9G (A0S k) (M7 k) _ _ _ _ _) _
    unfold A9G
    refine N5 hi (by omega) hi ?_
    rw [hr]
    exact Ev.bind (B5N m a) (F4 Iff.rfl (fun _=>Ev.now _) fun _=>ih () trivial)
theorem C1V (m:FP) (f:List FP):Ev (fun k=>S4 k m f) (U3 m f):=by
  show Ev (fun k=>B14 (A0i k) (I5 k) _ _) _
  unfold B14
  refine Ev.bind (A7n m) (F4 Iff.rfl (fun _=>Ev.now _) fun c0=>F4 (by omega) (fun _=>Ev.now _) fun c=>Y1 (d:=([]:FP)) (by omega) (fun k i (_:Unit)=>A0i k f f (f.length:Int) i m) (fun _ _=>P3 (v8 m) (B4W f)) (fun _ _=>True) () trivial ?_ ?_)
  · intro _ _
    show Ev (fun k=>A8y (A0i k) (T2 k) _ _ _ _ _) _
    unfold A8y
    exact C7 (Int.lt_irrefl _) (D9m (by omega))
  · intro pre a post _ hp hi hr _ ih
    show Ev (fun k=>A8y (A0i k) (T2 k) _ _ _ _ _) _
    unfold A8y
    refine N5 hi (by omega) hi ?_
    rw [hr]
    exact Ev.bind (C5d a (Decidable.not_not.1 c0)) (F4 Iff.rfl (fun _=>Ev.now _) fun _=>ih () trivial)
def fst (m:FP) (l:List (List FP)):Int:=if form m≠0 then form m else P3 (fck m) 0 l
theorem C0a (m:FP) {l:List (List FP)} (hl:l.length<1099511627776):Ev (fun k=>H9 k m l) (fst m l):=by
  show Ev (fun k=>B83 (A1L k) (A3y k) _ _) _
  unfold B83
  refine Ev.bind (F7b m) (F4 Iff.rfl (fun _=>Ev.now _) fun c=>Y1 (d:=([]:List FP)) hl (fun k i (_:Unit)=>A1L k l (l.length:Int) i m) (fun _ _=>P3 (fck m) 0) (fun _ _=>True) () trivial ?_ ?_)
  · intro _ _
    show Ev (fun k=>A8d (A1L k) (A2o k) _ _ _ _) _
    unfold A8d
    exact C7 (Int.lt_irrefl _) (Ev.now _)
  · intro pre a post _ hp hi hr _ ih
    show Ev (fun k=>A8d (A1L k) (A2o k) _ _ _ _) _
    unfold A8d
    refine N5 hi (by omega) hi ?_
    rw [hr]
    exact Ev.bind (E5N m a) (F4 Iff.rfl (fun _=>Ev.now _) fun _=>ih () trivial)
theorem B7B (m:FP) (f:List FP):fst m [f]=U3 m f:=by
  unfold fst U3
  by_cases c:form m≠0
  · rw [if_pos c,if_pos c]
  · rw [if_neg c,if_neg c]
    show(if fck m f≠0 then fck m f else 0)=fck m f
    by_cases c2:fck m f≠0
    · rw [if_pos c2]
    · rw [if_neg c2,Decidable.not_not.1 c2]
theorem F0e {l:List Int} (hl:l.length<1099511627776):Ev (fun k=>A5Z k l) (P3 id 0 l):=by
  show Ev (fun k=>B34 (A0t k) _) _
  unfold B34
  refine Y1 (d:=(0:Int)) hl (fun k i (_:Unit)=>A0t k l (l.length:Int) i) (fun _ _=>P3 id 0) (fun _ _=>True) () trivial ?_ ?_
  · intro _ _
    show Ev (fun k=>A8s (A0t k) _ _ _) _
    unfold A8s
    exact C7 (Int.lt_irrefl _) (Ev.now _)
  · intro pre a post _ hp hi hr _ ih
    show Ev (fun k=>A8s (A0t k) _ _ _) _
    unfold A8s
    have hr':rd l (pre.length:Int)=a:=hr
    refine N5 hi (by omega) hi ?_
    rw [hr']
    exact F4 (d:=id a≠0) Iff.rfl (fun _=>Ev.now _) fun _=>ih () trivial
def sm8 (x:FV):Bool:=if 8<x.1.2.size then false else if 8<x.2.size then false else true
def few (f:FP) (n:Nat):Bool:=if n+1<f.length then false else if Y7 f≠0 then false else f.all sm8
theorem F0p (f:FP) {n:Nat} (hn:n<1000):Ev (fun k=>A5f k f (n:Int)) (few f n):=by
  show Ev (fun k=>B70 (A0p k) (T6 k) _ _) _
  unfold B70
  have w:wrap64 ((n:Int)+1)=(n:Int)+1:=I4 (by omega) (by omega)
  rw [w]
  refine F4 (by omega) (fun _=>Ev.now _) fun c=>Ev.bind (C2D f) (F4 Iff.rfl (fun _=>Ev.now _) fun _=>?_)
  refine Y1 (d:=d0) (by omega) (fun k i (_:Unit)=>A0p k f (f.length:Int) i) (fun _ _ l=>l.all sm8) (fun _ _=>True) () trivial ?_ ?_
  · intro _ _
    show Ev (fun k=>A8m (A0p k) _ _ _) _
    unfold A8m
    exact C7 (Int.lt_irrefl _) (Ev.now _)
  · intro pre a post _ hp hi hr _ ih
    show Ev (fun k=>A8m (A0p k) _ _ _) _
    unfold A8m
    refine N5 hi (by omega) hi ?_
    rw [hr,List.all_cons]
    have e:(sm8 a&&post.all sm8)=if 8<a.1.2.size then false else if 8<a.2.size then false else post.all sm8:=by
      unfold sm8
      split
      · rfl
      · split<;>simp
    rw [e]
    exact F4 (by omega) (fun _=>Ev.now _) fun _=>F4 (by omega) (fun _=>Ev.now _) fun _=>ih () trivial
def A3I (m a:FP):Bool:=if form m=0 then(if a.length≤m.length-1 then few a (m.length-1)else false)else false
theorem D9A (m a:FP):Ev (fun k=>o6 k m a) (A3I m a):=by
  show Ev (fun k=>B49 (I5 k) (R0 k) (A5f k) _ _) _
  unfold B49
  refine Ev.bind (A7n m) (F4 Iff.rfl (fun c=>?_) fun _=>Ev.now _)
  have hl:=B6X c
  have e:(m.length:Int)-1=((m.length-1:Nat):Int):=by omega
  have hd:=C9j (m:=m) (by omega)
  rw [e]at hd
  exact Ev.bind hd (F4 (by show(a.length:Int)≤((m.length-1:Nat):Int)↔_;omega) (fun _=>Ev.bind hd (Ev.bind (F0p a (by omega)) (Ev.now _))) fun _=>Ev.now _)
def sm4 (x:FV):Bool:=if 4<x.1.2.size then false else true
def A4d (m:FP) (n:Nat):Bool:=if n+1<m.length then false else if form m≠0 then false else m.all sm4
theorem D2x (m:FP) {n:Nat} (hn:n<1000):Ev (fun k=>i9 k m (n:Int)) (A4d m n):=by
  show Ev (fun k=>B79 (A0s k) (I5 k) _ _) _
  unfold B79
  have w:wrap64 ((n:Int)+1)=(n:Int)+1:=I4 (by omega) (by omega)
  rw [w]
  refine F4 (by omega) (fun _=>Ev.now _) fun c=>Ev.bind (A7n m) (F4 Iff.rfl (fun _=>Ev.now _) fun _=>?_)
  refine Y1 (d:=d0) (by omega) (fun k i (_:Unit)=>A0s k m (m.length:Int) i) (fun _ _ l=>l.all sm4) (fun _ _=>True) () trivial ?_ ?_
  · intro _ _
    show Ev (fun k=>A9R (A0s k) _ _ _) _
    unfold A9R
    exact C7 (Int.lt_irrefl _) (Ev.now _)
  · intro pre a post _ hp hi hr _ ih
    show Ev (fun k=>A9R (A0s k) _ _ _) _
    unfold A9R
    refine N5 hi (by omega) hi ?_
    rw [hr,List.all_cons]
    have e:(sm4 a&&post.all sm4)=if 4<a.1.2.size then false else post.all sm4:=by
      unfold sm4
      split
      · rfl
      · simp
    rw [e]
    exact F4 (by omega) (fun _=>Ev.now _) fun _=>ih () trivial
def A8H (m:FP) (f:List FP) (n d:Nat):Bool:=if(!A4d m n)=true then false else if d+1<f.length then false else if U3 m f≠0 then false else f.all (A3I m)
theorem E0b (m:FP) (f:List FP) {n d:Nat} (hn:n<1000) (hd:d<1000):Ev (fun k=>A2d k m f (n:Int) (d:Int)) (A8H m f n d):=by
  show Ev (fun k=>B26 (A1D k) (S4 k) (i9 k) _ _ _ _) _
  unfold B26
  have w:wrap64 ((d:Int)+1)=(d:Int)+1:=I4 (by omega) (by omega)
  rw [w]
  refine Ev.bind (D2x m hn) (A4I (fun _=>Ev.now _) fun _=>F4 (by omega) (fun _=>Ev.now _) fun c=>Ev.bind (C1V m f) (F4 Iff.rfl (fun _=>Ev.now _) fun _=>?_))
  refine Y1 (d:=([]:FP)) (by omega) (fun k i (_:Unit)=>A1D k f (f.length:Int) i m) (fun _ _ l=>l.all (A3I m)) (fun _ _=>True) () trivial ?_ ?_
  · intro _ _
    show Ev (fun k=>A9P (A1D k) (o6 k) _ _ _ _) _
    unfold A9P
    exact C7 (Int.lt_irrefl _) (Ev.now _)
  · intro pre a post _ hp hi hr _ ih
    show Ev (fun k=>A9P (A1D k) (o6 k) _ _ _ _) _
    unfold A9P
    refine N5 hi (by omega) hi ?_
    rw [hr,List.all_cons]
    refine Ev.bind (D9A m a) ?_
    cases A3I m a with
    |false=>exact A5u rfl (Ev.now _)
    |true=>rw [Bool.true_and];exact n7 rfl (ih () trivial)
def bad (m:FP) (f:List FP):Bool:=if U3 m f=0 then !A8H m f 4 4 else false
def C0D (m:FP) (l:List (List FP)):Bool:=if form m≠0 then false else if l.any (bad m)=true then true else !A4d m 4
theorem F1D (m:FP) {l:List (List FP)} (hl:l.length<1099511627776):Ev (fun k=>A5c k m l) (C0D m l):=by
  show Ev (fun k=>B12 (A0y k) (I5 k) _ _) _
  unfold B12
  refine Ev.bind (A7n m) (F4 Iff.rfl (fun _=>Ev.now _) fun _=>?_)
  refine Y1 (d:=([]:List FP)) hl (fun k i (_:Unit)=>A0y k l (l.length:Int) i m) (fun _ _ l=>if l.any (bad m)=true then true else !A4d m 4) (fun _ _=>True) () trivial ?_ ?_
  · intro _ _
    show Ev (fun k=>A9p (A0y k) (S4 k) (A2d k) (i9 k) _ _ _ _) _
    unfold A9p
    exact C7 (Int.lt_irrefl _) (Ev.bind (D2x m (n:=4) (by omega)) (Ev.now _))
  · intro pre a post _ hp hi hr _ ih
    show Ev (fun k=>A9p (A0y k) (S4 k) (A2d k) (i9 k) _ _ _ _) _
    unfold A9p
    refine N5 hi (by omega) hi ?_
    rw [hr,List.any_cons]
    refine Ev.bind (C1V m a) ?_
    unfold bad
    by_cases c:U3 m a=0
    · rw [if_pos c]
      refine C1 c (Ev.bind (E0b m a (n:=4) (d:=4) (by omega) (by omega)) ?_)
      cases A8H m a 4 4 with
      |false=>exact A5u rfl (Ev.now _)
      |true=>exact n7 rfl (ih () trivial)
    · rw [if_neg c,Bool.false_or]
      exact C7 c (ih () trivial)
theorem F0J {a b:Rat} (h:fr a=fr b):a=b:=by
  unfold fr at h
  rw [Prod.mk.injEq,Prod.mk.injEq]at h
  exact Rat.ext (Go.Proofs.YtijohnkgomcdbaaGreatN.int_inj h.1.1 h.1.2) (B2N.1 h.2)
theorem B4r (a:Rat):zq (fr a)=decide (a=0):=by
  have e:zq (fr a)=decide (a.num=0):=by unfold zq fr;rw [F1];exact B8b a.num
  rw [e,Bool.eq_iff_iff,decide_eq_true_eq,decide_eq_true_eq,Rat.num_eq_zero]
theorem E7i {f:FP} {n:Nat} (h:∀x,x∈f→∃a:Rat,x=fr a∧Sm n a):∃g:List Rat,f=g.map fr∧∀a,a∈g→Sm n a:=by
  induction f with
  |nil=>exact⟨[],rfl,fun a ha=>by simp at ha⟩
  | cons x f ih=>
    obtain⟨g,rfl,hg⟩:=ih fun y hy=>h y (List.mem_cons_of_mem _ hy)
    obtain⟨a,rfl,ha⟩:=h x List.mem_cons_self
    exact⟨a::g,rfl,fun b hb=>by rcases List.mem_cons.1 hb with rfl|hb;exact ha;exact hg b hb⟩
theorem E4c {f:FP} (h:Y7 f=0):f.length≤65∧(∀x,x∈f→T7 x=0)∧∀x,f.getLast?=some x→zq x=false:=by
  have hl:=C7r h
  unfold Y7 at h
  rw [if_neg (by omega)]at h
  obtain⟨h1,h2⟩:=D9W h
  refine⟨hl,h1,fun x hx=>?_⟩
  unfold A5s at h2
  rw [hx]at h2
  cases hz:zq x with
  |false=>rfl
  |true=>simp [hz]at h2
theorem D6R {f:FP} (h:Y7 f=0):∃g:List Rat,f=g.map fr∧(∀a,a∈g→Sm 1024 a)∧g.length≤65∧∀a,g.getLast?=some a→a≠0:=by
  obtain⟨h1,h2,h3⟩:=E4c h
  obtain⟨g,rfl,hg⟩:=E7i (n:=1024) fun x hx=>D2L (h2 x hx)
  refine⟨g,rfl,hg,by rwa [List.length_map]at h1,fun a ha h0=>?_⟩
  have:=h3 (fr a) (by rw [List.getLast?_map,ha];rfl)
  rw [B4r,decide_eq_false_iff_not]at this
  exact this h0
theorem D8m {f:FP} {n:Nat} (h:few f n=true):∃g:List Rat,f=g.map fr∧(∀a,a∈g→Sm 8 a)∧g.length≤n+1∧∀a,g.getLast?=some a→a≠0:=by
  unfold few at h
  by_cases c:n+1<f.length
  · rw [if_pos c]at h;cases h
  · rw [if_neg c]at h
    by_cases c2:Y7 f≠0
    · rw [if_pos c2]at h;cases h
    · rw [if_neg c2]at h
      obtain⟨g,rfl,hg,hl,hz⟩:=D6R (Decidable.not_not.1 c2)
      rw [List.length_map]at c
      refine⟨g,rfl,fun a ha=>?_,by omega,hz⟩
      have h1:=List.all_eq_true.1 h (fr a) (List.mem_map_of_mem ha)
      unfold sm8 at h1
      split at h1
      · cases h1
      · split at h1
        · cases h1
        · rename_i h2 h3
          exact⟨Nat.not_lt.1 h2,Nat.not_lt.1 h3⟩
theorem F1C {m:FP} {f:List FP} {n d:Nat} (h:A8H m f n d=true):∃g:List (List Rat),f=g.map (List.map fr)∧(∀a,a∈g→(∀q,q∈a→Sm 8 q)∧(∀q,a.getLast?=some q→q≠0)∧a.length<m.length)∧g.length≤d+1:=by
  unfold A8H at h
  split at h
  · cases h
  · split at h
    · cases h
    · rename_i c
      split at h
      · cases h
      · have h1:=List.all_eq_true.1 h
        have:∀l:List FP,(∀a,a∈l→A3I m a=true)→∃g:List (List Rat),l=g.map (List.map fr)∧∀a,a∈g→(∀q,q∈a→Sm 8 q)∧(∀q,a.getLast?=some q→q≠0)∧a.length<m.length:=by
          intro l
          induction l with
          |nil=>exact fun _=>⟨[],rfl,fun a ha=>by simp at ha⟩
          | cons x l ih=>
            intro hl
            obtain⟨g,rfl,hg⟩:=ih fun y hy=>hl y (List.mem_cons_of_mem _ hy)
            have hx:=hl x List.mem_cons_self
            unfold A3I at hx
            split at hx
            · rename_i hm
              split at hx
              · rename_i hlen
                obtain⟨b,rfl,h2,h3,h4⟩:=D8m hx
                rw [List.length_map]at hlen
                have:=B6X hm
                exact⟨b::g,rfl,fun a ha=>by rcases List.mem_cons.1 ha with rfl|ha;exact⟨h2,h4,by omega⟩;exact hg a ha⟩
              · cases hx
            · cases hx
        obtain⟨g,rfl,hg⟩:=this f h1
        exact⟨g,rfl,hg,by rw [List.length_map]at c;omega⟩
theorem D6s {α β S R:Type} {d:α} {e:β→α} {l:List β} (hl:l.length<1099511627776) (g:Nat→Int→S→Option R) (F:List β→S→List β→R) (I:List β→S→Prop)
    (hT:∀s,I l s→Ev (fun k=>g (k+1) (l.length:Int) s) (F l s []))
    (hC:∀pre a post s,l=pre++a::post→(pre.length:Int)<l.length→C4 d (l.map e) (pre.length:Int)=e a→I pre s→
      (∀s',I (pre++[a]) s'→Ev (fun k=>g k (wrap64 ((pre.length:Int)+1)) s') (F (pre++[a]) s' post))→Ev (fun k=>g (k+1) (pre.length:Int) s) (F pre s (a::post))):
    ∀(post pre:List β) (s:S),l=pre++post→I pre s→Ev (fun k=>g k (pre.length:Int) s) (F pre s post)
  | [],pre,s,hp,hI=>by
    have h0:l=pre:=by rw [hp,List.append_nil]
    subst h0
    exact Ev.step (f:=fun k=>g (k+1) (l.length:Int) s) (fun k=>rfl) (hT s hI)
  | a::post,pre,s,hp,hI=>by
    have h1:l.length=pre.length+post.length+1:=by rw [hp,List.length_append,List.length_cons];omega
    refine Ev.step (f:=fun k=>g (k+1) (pre.length:Int) s) (fun k=>rfl) ?_
    refine hC pre a post s hp (by omega) ?_ hI fun s' hI'=>?_
    · rw [hp,List.map_append,List.map_cons]
      have:=B6g (d:=d) (pre.map e) (e a) (post.map e)
      rwa [List.length_map]at this
    have h:=D6s hl g F I hT hC post (pre++[a]) s' (by rw [hp,List.append_assoc];rfl) hI'
    have e3:wrap64 ((pre.length:Int)+1)=((pre++[a]).length:Int):=by rw [I4 (by omega) (by omega),List.length_append];rfl
    rw [e3];exact h
def I6 {α:Type} (p:α→Bool) (l:List α):List α:=(l.reverse.dropWhile p).reverse
theorem B2Q {α:Type} (p:α→Bool) (l:List α) (a:α):I6 p (l++[a])=if p a=true then I6 p l else l++[a]:=by
  unfold I6
  rw [List.reverse_append,List.reverse_singleton,List.singleton_append,List.dropWhile_cons]
  split
  · rfl
  · simp
theorem C4M {α β:Type} (p:β→Bool) (f:α→β) (l:List α):I6 p (l.map f)=(I6 (fun x=>p (f x)) l).map f:=by
  unfold I6
  rw [←List.map_reverse,List.dropWhile_map,List.map_reverse];rfl
theorem B0Q {α:Type} {p:α→Bool} {l:List α} {x:α} (h:x∈I6 p l):x∈l:=by
  unfold I6 at h
  exact List.mem_reverse.1 ((List.dropWhile_sublist p).subset (List.mem_reverse.1 h))
theorem B4F {α:Type} (p:α→Bool) (l:List α):(I6 p l).length≤l.length:=by
  unfold I6
  rw [List.length_reverse]
  have:=(List.dropWhile_sublist p (l:=l.reverse)).length_le
  rwa [List.length_reverse]at this
theorem back {α:Type} {d:α} {l:List α} (p:α→Bool) (hl:l.length<1099511627776) (g:Nat→Int→Option (List α)) (h0:Ev (fun k=>g (k+1) 0) [])
    (hC:∀pre a post,l=pre++a::post→C4 d l (pre.length:Int)=a→wrap64 (((pre.length+1:Nat):Int)-1)=(pre.length:Int)→pre.length+1≤l.length→Ev (fun k=>g k (pre.length:Int)) (I6 p pre)→
      Ev (fun k=>g (k+1) ((pre.length+1:Nat):Int)) (if p a=true then I6 p pre else pre++[a])):
    ∀(n:Nat) (pre post:List α),pre.length=n→l=pre++post→Ev (fun k=>g k (n:Int)) (I6 p pre)
  | 0,pre,post,hn,hp=>by
    rw [List.length_eq_zero_iff.1 hn]
    exact Ev.step (f:=fun k=>g (k+1) 0) (fun k=>rfl) h0
  | n+1,pre,post,hn,hp=>by
    have hne:pre≠[]:=fun h=>by rw [h]at hn;cases hn
    have e:=List.dropLast_concat_getLast hne
    have e1:pre.dropLast.length=n:=by rw [List.length_dropLast,hn];rfl
    have hp2:l=pre.dropLast++pre.getLast hne::post:=by
      conv=>lhs;rw [hp,←e]
      rw [List.append_assoc];rfl
    have hle:n+1≤l.length:=by rw [hp,List.length_append];omega
    have h:=hC pre.dropLast (pre.getLast hne) post hp2 (by rw [hp2];exact B6g _ _ _) (by rw [e1,I4 (by omega) (by omega)];omega) (by omega) (by
      have:=back p hl g h0 hC n pre.dropLast (pre.getLast hne::post) e1 hp2
      rwa [←e1]at this)
    rw [e1]at h
    refine Ev.step (f:=fun k=>g (k+1) ((n+1:Nat):Int)) (fun k=>rfl) ?_
    rw [←B2Q,e]at h
    exact h
theorem B8e {α:Type} {d:α} {l:List α} (p:α→Bool) (hl:l.length<1099511627776) (g:Nat→Int→Option (List α)) (h0:Ev (fun k=>g (k+1) 0) [])
    (hC:∀pre a post,l=pre++a::post→C4 d l (pre.length:Int)=a→wrap64 (((pre.length+1:Nat):Int)-1)=(pre.length:Int)→pre.length+1≤l.length→Ev (fun k=>g k (pre.length:Int)) (I6 p pre)→
      Ev (fun k=>g (k+1) ((pre.length+1:Nat):Int)) (if p a=true then I6 p pre else pre++[a])):
    Ev (fun k=>g k (l.length:Int)) (I6 p l):=back p hl g h0 hC l.length l [] rfl (by rw [List.append_nil])
theorem C1J {α:Type} {pre post:List α} {a:α}:slice_ (pre++a::post) 0 ((pre.length+1:Nat):Int)=pre++[a]:=by
  have e:pre++a::post=(pre++[a])++post:=by rw [List.append_assoc];rfl
  show(List.take _ _).drop 0=_
  rw [List.drop_zero,e,Int.toNat_natCast,List.take_left' (by rw [List.length_append];rfl)]
theorem B8a {f:FP} (hl:f.length<1099511627776):Ev (fun k=>E5 k f) (I6 zq f):=by
  show Ev (fun k=>B92 (A0M k) _) _
  unfold B92
  refine B8e (d:=d0) zq hl (fun k i=>A0M k f i) ?_ ?_
  · show Ev (fun k=>A7Z (A0M k) (J3 k) _ _) _
    unfold A7Z
    exact C7 (by decide) (C1 (by decide) (C1 (by decide) (C1 (by decide) (C1 (by omega) (Ev.now [])))))
  · intro pre a post hp hr hw hle ih
    show Ev (fun k=>A7Z (A0M k) (J3 k) _ _) _
    unfold A7Z
    rw [hw,hr]
    refine C1 (by omega) (C1 (by omega) (C1 (by omega) (Ev.bind (B7z a) (A4I (fun _=>ih) fun _=>?_))))
    refine C1 (by decide) (C1 (by omega) (C1 (Int.le_refl _) (C1 (by omega) ?_)))
    rw [hp,C1J];exact Ev.now _
theorem C5M {f:List FP} (hl:f.length<1099511627776):Ev (fun k=>E8 k f) (I6 List.isEmpty f):=by
  show Ev (fun k=>B3u (A0b k) _) _
  unfold B3u
  refine B8e (d:=([]:FP)) List.isEmpty hl (fun k i=>A0b k f i) ?_ ?_
  · show Ev (fun k=>A8u (A0b k) _ _) _
    unfold A8u
    exact C7 (by decide) (C1 (by decide) (C1 (by decide) (C1 (by decide) (C1 (by omega) (Ev.now [])))))
  · intro pre a post hp hr hw hle ih
    show Ev (fun k=>A8u (A0b k) _ _) _
    unfold A8u
    rw [hw,hr]
    refine C1 (by omega) (C1 (by omega) (C1 (by omega) (F4 (d:=a.isEmpty=true) (by cases a<;>simp;omega) (fun _=>ih) fun _=>?_)))
    refine C1 (by decide) (C1 (by omega) (C1 (Int.le_refl _) (C1 (by omega) ?_)))
    rw [hp,C1J];exact Ev.now _
theorem C4I {f:List FP} (hl:f.length<1000000):Ev (fun k=>J1 k f) (I6 List.isEmpty f):=by
  show Ev (fun k=>B4t (A0z k) _) _
  unfold B4t
  refine B8e (d:=([]:FP)) List.isEmpty (by omega) (fun k i=>A0z k f i) ?_ ?_
  · show Ev (fun k=>A9J (A0z k) _ _) _
    unfold A9J
    exact C7 (by decide) (C1 (by decide) (C1 (by decide) (C1 (by omega) (C1 (Int.le_refl _) (C1 (by show(0+0)*24≤_;decide) (Ev.now []))))))
  · intro pre a post hp hr hw hle ih
    show Ev (fun k=>A9J (A0z k) _ _) _
    unfold A9J
    rw [hw,hr]
    refine C1 (by omega) (C1 (by omega) (C1 (by omega) (F4 (d:=a.isEmpty=true) (by cases a<;>simp;omega) (fun _=>ih) fun _=>?_)))
    rw [hp,C1J]
    refine C1 (by decide) (C1 (by omega) (C1 (by rw [←hp];omega) (C1 (Int.le_refl _) (C1 ?_ (Ev.now _)))))
    rw [List.length_append,List.length_singleton,List.length_nil];omega
def zr (a:Rat):Bool:=decide (a=0)
theorem D4a:(fun x=>zq (fr x))=zr:=by funext a;exact B4r a
theorem F7S (a:Rat):Ev (fun k=>S1 k (fr a)) (sgn a.num):=by
  have f1:=D1k a.num
  refine⟨0,fun k _=>?_⟩
  show S1 _ _=_
  unfold S1 B3J
  simp only [fr,A5Q,Ya,Yb,Yc,Yd,Ye,Yf,Yg,Yh,Yi,Yj,Yk,Int.reduceEq,reduceCtorEq,Yl,Ym,Yn,Yo,Yp,Yq,Yr,Ys,Yt,Yu,Yv,Yw,Yx,Yy,Yz,YA,YB,YC,f1]
theorem F1a (a:Rat):sgn a.num=0↔zr a=true:=by
  unfold sgn zr
  rw [decide_eq_true_eq,←Rat.num_eq_zero]
  constructor
  · intro h
    by_cases c:a.num<0
    · rw [if_pos c]at h;cases h
    · rw [if_neg c]at h
      by_cases c2:a.num=0
      · exact c2
      · rw [if_neg c2]at h;cases h
  · intro h;rw [h];rfl
theorem B4j {g:List Rat} (hl:g.length<1000000):Ev (fun k=>F7 k (g.map fr)) ((I6 zr g).map fr):=by
  rw [←D4a,←C4M]
  show Ev (fun k=>B48 (A1T k) _) _
  unfold B48
  refine B8e (d:=d0) zq (by rw [List.length_map];omega) (fun k i=>A1T k (g.map fr) i) ?_ ?_
  · show Ev (fun k=>A8A (A1T k) (S1 k) _ _) _
    unfold A8A
    exact C7 (by decide) (C1 (by decide) (C1 (by decide) (C1 (by omega) (C1 (Int.le_refl _) (C1 (by show(0+0)*40≤_;decide) (Ev.now []))))))
  · intro pre a post hp hr hw hle ih
    show Ev (fun k=>A8A (A1T k) (S1 k) _ _) _
    unfold A8A
    rw [hw,hr]
    obtain⟨b,hb,rfl⟩:=List.mem_map.1 (show a∈g.map fr by rw [hp];simp)
    refine C1 (by omega) (C1 (by omega) (C1 (by omega) (Ev.bind (F7S b) (F4 (d:=zq (fr b)=true) (by rw [B4r];exact F1a b) (fun _=>ih) fun _=>?_))))
    have hle':pre.length+1≤g.length:=by rwa [List.length_map]at hle
    rw [hp,C1J]
    refine C1 (by decide) (C1 (by omega) (C1 (by rw [←hp];omega) (C1 (Int.le_refl _) (C1 ?_ (Ev.now _)))))
    rw [List.length_append,List.length_singleton,List.length_nil];omega
def scl (c:Rat) (g:List Rat):List Rat:=I6 zr (g.map (· *c))
theorem E2l {g:List Rat} {c:Rat} (hl:g.length<1000000) (hg:∀a,a∈g→Sm 10000 a) (hc:Sm 10000 c):Ev (fun k=>A5k k (g.map fr) (fr c)) ((scl c g).map fr):=by
  show Ev (fun k=>B98 (A1W k) _ _) _
  unfold B98
  rw [List.length_map]
  refine D6s (d:=d0) (e:=fr) (l:=g) (by omega) (fun k i (s:FP)=>A1W k (g.map fr) (g.length:Int) i (fr c) s) (fun _ _ _=>(scl c g).map fr)
    (fun pre s=>s=(pre.map (· *c)).map fr) ?_ ?_ g [] [] rfl rfl
  · intro s hs
    subst hs
    show Ev (fun k=>A8r (A1W k) (F7 k) (M4 k) _ _ _ _ _) _
    unfold A8r
    exact C7 (Int.lt_irrefl _) (Ev.bind (B4j (by rw [List.length_map];omega)) (Ev.now _))
  · intro pre a post s hp hi hr hs ih
    subst hs
    show Ev (fun k=>A8r (A1W k) (F7 k) (M4 k) _ _ _ _ _) _
    unfold A8r
    refine N5 hi (by omega) (by rw [List.length_map];exact hi) ?_
    rw [hr]
    refine Ev.bind (C3v (hg a (by rw [hp];simp)) hc) (C1 (by rw [List.length_map,List.length_map];omega) (ih _ ?_))
    rw [List.map_append,List.map_append];rfl
def d6 (x:FV):Bool:=if 1024<x.1.2.size then true else decide (1024<x.2.size)
theorem F1X (x:FV):Ev (fun k=>A3C k x) (d6 x):=by
  show Ev (fun k=>B3P _) _
  unfold B3P
  have e:decide ((x.2.size:Int)>1024)=decide (1024<x.2.size):=by rw [Bool.eq_iff_iff,decide_eq_true_eq,decide_eq_true_eq];omega
  rw [e]
  exact F4 (by omega) (fun _=>Ev.now _) fun _=>Ev.now _
theorem D2f {f:FP} (hl:f.length<1099511627776):Ev (fun k=>A1r k f) (f.any d6):=by
  have h:Ev (fun k=>A5w k f) (ix d6 0 f):=by
    show Ev (fun k=>B4V (A0d k) _) _
    unfold B4V
    refine Y1 (d:=d0) hl (fun k i (_:Unit)=>A0d k f (f.length:Int) i) (fun n _ l=>ix d6 n l) (fun _ _=>True) () trivial ?_ ?_
    · intro _ _
      show Ev (fun k=>A8x (A0d k) (A3C k) _ _ _) _
      unfold A8x
      exact C7 (Int.lt_irrefl _) (Ev.now _)
    · intro pre a post _ hp hi hr _ ih
      show Ev (fun k=>A8x (A0d k) (A3C k) _ _ _) _
      unfold A8x
      refine N5 hi (by omega) hi ?_
      rw [hr]
      exact Ev.bind (F1X a) (A4I (fun _=>Ev.now _) fun _=>ih () trivial)
  rw [←B3Z _ _ 0]
  exact Ev.bind h (Ev.now _)
theorem F4I {f:List FP} (hl:f.length<1099511627776) (hs:∀a,a∈f→a.length<1099511627776):Ev (fun k=>R3 k f) (if 65<f.length then true else f.any (fun a=>a.any d6)):=by
  have h:Ev (fun k=>A4y k f) (ix (fun a=>a.any d6) 0 f):=by
    show Ev (fun k=>A9C (f8 k) _) _
    unfold A9C
    refine Y1 (d:=([]:FP)) hl (fun k i (_:Unit)=>f8 k f (f.length:Int) i) (fun n _ l=>ix (fun a=>a.any d6) n l) (fun _ _=>True) () trivial ?_ ?_
    · intro _ _
      show Ev (fun k=>A2Z (f8 k) (A0A k) _ _ _) _
      unfold A2Z
      exact C7 (Int.lt_irrefl _) (Ev.now _)
    · intro pre a post _ hp hi hr _ ih
      show Ev (fun k=>A2Z (f8 k) (A0A k) _ _ _) _
      unfold A2Z
      refine N5 hi (by omega) hi ?_
      rw [hr]
      have h1:Ev (fun k=>A0A k a) (a.any d6):=Ev.bind (D2f (hs a (by rw [hp];simp))) (Ev.now _)
      exact Ev.bind h1 (A4I (fun _=>Ev.now _) fun _=>ih () trivial)
  show Ev (fun k=>B3L (k8 k) _) _
  unfold B3L
  refine F4 (by omega) (fun _=>Ev.now _) fun _=>?_
  rw [←B3Z _ _ 0]
  have h2:Ev (fun k=>k8 k f) (decide (ix (fun a=>a.any d6) 0 f≥0)):=Ev.bind (Ev.bind h (Ev.now _)) (Ev.now _)
  exact Ev.bind h2 (Ev.now _)
theorem D1d {f:FP} (hl:f.length<1099511627776):Ev (fun k=>o9 k f) (P3 T7 0 f):=by
  show Ev (fun k=>B5a (A0P k) _) _
  unfold B5a
  refine Y1 (d:=d0) hl (fun k i (_:Unit)=>A0P k f (f.length:Int) i) (fun _ _=>P3 T7 0) (fun _ _=>True) () trivial ?_ ?_
  · intro _ _
    show Ev (fun k=>A7d (A0P k) (M0 k) _ _ _) _
    unfold A7d
    exact C7 (Int.lt_irrefl _) (Ev.now _)
  · intro pre a post _ hp hi hr _ ih
    show Ev (fun k=>A7d (A0P k) (M0 k) _ _ _) _
    unfold A7d
    refine N5 hi (by omega) hi ?_
    rw [hr]
    exact Ev.bind (D5s a) (F4 Iff.rfl (fun _=>Ev.now _) fun _=>ih () trivial)
theorem E9j {f:List FP} (hs:∀a,a∈f→a.length<1099511627776):Ev (fun k=>j8 k f) (if 65<f.length then 4 else P3 (P3 T7 0) 0 f):=by
  show Ev (fun k=>B44 (A1B k) _) _
  unfold B44
  refine F4 (by omega) (fun _=>Ev.now _) fun c=>Y1 (d:=([]:FP)) (by omega) (fun k i (_:Unit)=>A1B k f (f.length:Int) i) (fun _ _=>P3 (P3 T7 0) 0) (fun _ _=>True) () trivial ?_ ?_
  · intro _ _
    show Ev (fun k=>A9h (A1B k) (o9 k) _ _ _) _
    unfold A9h
    exact C7 (Int.lt_irrefl _) (Ev.now _)
  · intro pre a post _ hp hi hr _ ih
    show Ev (fun k=>A9h (A1B k) (o9 k) _ _ _) _
    unfold A9h
    refine N5 hi (by omega) hi ?_
    rw [hr]
    exact Ev.bind (D1d (hs a (by rw [hp];simp))) (F4 Iff.rfl (fun _=>Ev.now _) fun _=>ih () trivial)
theorem B6P {α:Type} {ck:α→Int}:∀{l:List α},(∀x,x∈l→ck x=0)→P3 ck 0 l=0
  | [],_=>rfl
  | a::l,h=>by
    unfold P3
    rw [if_neg (by rw [h a List.mem_cons_self];decide)]
    exact B6P fun x hx=>h x (List.mem_cons_of_mem _ hx)
def A3L (w:List FP):Prop:=w.length≤65∧∀a,a∈w→a.length<1099511627776∧∀x,x∈a→∃q:Rat,x=fr q∧Sm 1024 q
theorem A3L.large {w:List FP} (h:A3L w):Ev (fun k=>R3 k w) false:=by
  have h1:=F4I (f:=w) (by have:=h.1;omega) fun a ha=>(h.2 a ha).1
  have e:w.any (fun a=>a.any d6)=false:=by
    rw [List.any_eq_false]
    intro a ha
    rw [Bool.not_eq_true,List.any_eq_false]
    intro x hx
    obtain⟨q,rfl,hq⟩:=(h.2 a ha).2 x hx
    unfold d6
    rw [if_neg (show¬1024<(fr q).1.2.size from Nat.not_lt.2 hq.1),decide_eq_true_eq]
    exact Nat.not_lt.2 hq.2
  rw [if_neg (by have:=h.1;omega),e]at h1
  exact h1
theorem A3L.Rlarge {w:List FP} (h:A3L w):Ev (fun k=>j8 k w) 0:=by
  have h1:=E9j (f:=w) fun a ha=>(h.2 a ha).1
  rw [if_neg (by have:=h.1;omega),B6P fun a ha=>B6P fun x hx=>?_]at h1
  · exact h1
  · obtain⟨q,rfl,hq⟩:=(h.2 a ha).2 x hx
    exact D5u hq
theorem D9D (a:ByteArray):E6 a a=true:=by rw [F1];exact beq_self_eq_true _
theorem D1v {f:FP} (hl:f.length<1099511627776):Ev (fun k=>W5 k f f) true:=by
  show Ev (fun k=>B18 (A0V k) _ _) _
  unfold B18
  refine C7 (fun h=>h rfl) (Y1 (d:=d0) hl (fun k i (_:Unit)=>A0V k f f (f.length:Int) i) (fun _ _ _=>true) (fun _ _=>True) () trivial ?_ ?_)
  · intro _ _
    show Ev (fun k=>A9F (A0V k) _ _ _ _) _
    unfold A9F
    exact C7 (Int.lt_irrefl _) (Ev.now _)
  · intro pre a post _ hp hi hr _ ih
    show Ev (fun k=>A9F (A0V k) _ _ _ _) _
    unfold A9F
    refine N5 hi (by omega) hi (L7 (by omega) hi ?_)
    rw [hr]
    exact n7 (by rw [beq_self_eq_true,D9D,D9D];rfl) (ih () trivial)
theorem F5I {f:List FP} (hl:f.length<1099511627776) (hs:∀a,a∈f→a.length<1099511627776):Ev (fun k=>V2 k f f) true:=by
  show Ev (fun k=>B29 (A1P k) _ _) _
  unfold B29
  refine C7 (fun h=>h rfl) (Y1 (d:=([]:FP)) hl (fun k i (_:Unit)=>A1P k f f (f.length:Int) i) (fun _ _ _=>true) (fun _ _=>True) () trivial ?_ ?_)
  · intro _ _
    show Ev (fun k=>A8o (A1P k) (W5 k) _ _ _ _) _
    unfold A8o
    exact C7 (Int.lt_irrefl _) (Ev.now _)
  · intro pre a post _ hp hi hr _ ih
    show Ev (fun k=>A8o (A1P k) (W5 k) _ _ _ _) _
    unfold A8o
    refine N5 hi (by omega) hi (L7 (by omega) hi ?_)
    rw [hr]
    exact Ev.bind (D1v (hs a (by rw [hp];simp))) (n7 rfl (ih () trivial))
theorem F3m {α:Type} {p:α→Bool} {l:List α} (h:∀x,l.getLast?=some x→p x=false):I6 p l=l:=by
  by_cases hn:l=[]
  · subst hn;rfl
  · have e:=List.dropLast_concat_getLast hn
    have:=h _ (List.getLast?_eq_some_getLast hn)
    conv=>lhs;rw [←e]
    rw [B2Q,this,if_neg (by decide),e]
def el (a:Rat):FP:=(I6 zr [a]).map fr
theorem wi {i:Nat} (h:i<1099511627776):wrap64 ((i:Int)+1)=((i+1:Nat):Int):=by rw [I4 (by omega) (by omega)];omega
theorem X5 {S R:Type} {n:Nat} (hn:n<1099511627776) (g:Nat→Int→S→Option R) (st:Nat→S) {r:R} (hT:Ev (fun k=>g (k+1) (n:Int) (st n)) r)
    (hC:∀i,i<n→Ev (fun k=>g k ((i+1:Nat):Int) (st (i+1))) r→Ev (fun k=>g (k+1) (i:Int) (st i)) r):Ev (fun k=>g k 0 (st 0)) r:=by
  have key:∀d i,i+d=n→Ev (fun k=>g k (i:Int) (st i)) r:=by
    intro d
    induction d with
    |zero=>intro i hi;rw [Nat.add_zero]at hi;subst hi;exact Ev.step (f:=fun k=>g (k+1) (i:Int) (st i)) (fun k=>rfl) hT
    |succ d ih=>intro i hi;exact Ev.step (f:=fun k=>g (k+1) (i:Int) (st i)) (fun k=>rfl) (hC i (by omega) (ih (i+1) (by omega)))
  exact key n 0 (by omega)
theorem B8R {S R:Type} {n:Nat} (hn:n<1099511627776) (g:Nat→Int→S→Option R) (st:Nat→S) {r:R} (hT:Ev (fun k=>g (k+1) (-1) (st 0)) r)
    (hC:∀i,i<n→Ev (fun k=>g k (wrap64 ((i:Int)-1)) (st i)) r→Ev (fun k=>g (k+1) (i:Int) (st (i+1))) r):Ev (fun k=>g k ((n:Int)-1) (st n)) r:=by
  have key:∀i,i≤n→Ev (fun k=>g k ((i:Int)-1) (st i)) r:=by
    intro i
    induction i with
    |zero=>intro _;exact Ev.step (f:=fun k=>g (k+1) (-1) (st 0)) (fun k=>rfl) hT
    | succ i ih=>
      intro hi
      have h:=hC i (by omega) (by rw [I4 (by omega) (by omega)];exact ih (by omega))
      rw [show((i+1:Nat):Int)-1=(i:Int)by omega]
      exact Ev.step (f:=fun k=>g (k+1) (i:Int) (st (i+1))) (fun k=>rfl) h
  exact key n (Nat.le_refl _)
def tb {α:Type} (n:Nat) (h:Nat→α):List α:=(List.range n).map h
section
variable {α β:Type} {n i:Nat} {h h':Nat→α} {d:α}
theorem H6:(tb n h).length=n:=by unfold tb;rw [List.length_map,List.length_range]
theorem A5P (hi:i<n):(tb n h)[i]?=some (h i):=by unfold tb;rw [List.getElem?_map,List.getElem?_range hi];rfl
theorem B3q (hi:i<n):C4 d (tb n h) (i:Int)=h i:=by
  unfold C4;rw [Int.toNat_natCast,List.getD_eq_getElem?_getD,A5P hi];rfl
theorem q7 (e:∀j,j<n→h j=h' j):tb n h=tb n h':=List.map_congr_left fun j hj=>e j (List.mem_range.1 hj)
theorem A4w {a:α} (hi:i<n) (e:∀j,j<n→h' j=if j=i then a else h j):(tb n h).set (i:Int).toNat a=tb n h':=by
  rw [Int.toNat_natCast]
  apply List.ext_getElem?
  intro j
  rcases Nat.lt_or_ge j n with hj|hj
  · rw [A5P hj,e j hj,List.getElem?_set]
    split
    · rename_i hij;subst hij;rw [if_pos (by rw [H6];exact hi),if_pos rfl]
    · rename_i hij;rw [A5P hj,if_neg (fun x=>hij x.symm)]
  · rw [List.getElem?_eq_none (by rw [List.length_set,H6];exact hj),List.getElem?_eq_none (by rw [H6];exact hj)]
theorem B1G:List.replicate n d=tb n fun _=>d:=by
  apply List.ext_getElem?
  intro j
  rcases Nat.lt_or_ge j n with hj|hj
  · rw [A5P hj,List.getElem?_replicate,if_pos hj]
  · rw [List.getElem?_eq_none (by rw [List.length_replicate];exact hj),List.getElem?_eq_none (by rw [H6];exact hj)]
theorem A6K:tb n h++[h n]=tb (n+1) h:=by unfold tb;rw [List.range_succ,List.map_append];rfl
theorem A7h (f:α→β):(tb n h).map f=tb n fun j=>f (h j):=by unfold tb;rw [List.map_map];rfl
theorem B5M {a:α} (ha:a∈tb n h):∃j,j<n∧a=h j:=by
  obtain⟨j,hj,rfl⟩:=List.mem_map.1 ha
  exact⟨j,List.mem_range.1 hj,rfl⟩
end
theorem B2m (m n:Nat):mx (m:Int) (n:Int)=((max m n:Nat):Int):=by
  show(if(m:Int)<n then(n:Int)else m)=_
  split<;>omega
def co (l:List Rat) (j:Nat):Rat:=l.getD j 0
def pl (n:Nat) (c:Nat→Rat):List Rat:=I6 zr (tb n c)
def Tr (l:List Rat):Prop:=∀a,l.getLast?=some a→a≠0
theorem Z4 {l:List Rat} {j:Nat} (h:l.length≤j):co l j=0:=by unfold co;rw [List.getD_eq_getElem?_getD,List.getElem?_eq_none h];rfl
theorem D2t {l:List Rat} {j:Nat} (h:j<l.length):co l j∈l:=by unfold co;rw [List.getD_eq_getElem?_getD,List.getElem?_eq_getElem h];exact List.getElem_mem h
theorem E5E {n j:Nat} {c:Nat→Rat}:co (tb n c) j=if j<n then c j else 0:=by
  split
  · rename_i h;unfold co;rw [List.getD_eq_getElem?_getD,A5P h];rfl
  · rename_i h;exact Z4 (by rw [H6];omega)
theorem D2J (l:List Rat) (j:Nat):co (I6 zr l) j=co l j:=by
  have key:∀r:List Rat,co (I6 zr r.reverse) j=co r.reverse j:=by
    intro r
    induction r with
    |nil=>rfl
    | cons a r ih=>
      rw [List.reverse_cons,B2Q]
      split
      · rename_i h
        rw [ih]
        unfold co
        rw [List.getD_eq_getElem?_getD,List.getD_eq_getElem?_getD]
        rcases Nat.lt_or_ge j r.reverse.length with h1|h1
        · rw [List.getElem?_append_left h1]
        · rw [List.getElem?_append_right h1,List.getElem?_eq_none h1]
          rcases Nat.eq_zero_or_pos (j-r.reverse.length)with h2|h2
          · rw [h2];exact(of_decide_eq_true h).symm
          · rw [List.getElem?_eq_none (by rw [List.length_singleton];exact h2)]
      · rfl
  have:=key l.reverse
  rwa [List.reverse_reverse]at this
theorem F8f (l:List Rat):Tr (I6 zr l):=by
  have key:∀r:List Rat,Tr (I6 zr r.reverse):=by
    intro r
    induction r with
    |nil=>intro a h;cases h
    | cons a r ih=>
      rw [List.reverse_cons,B2Q]
      split
      · exact ih
      · rename_i h
        intro b hb
        rw [List.getLast?_concat]at hb
        cases hb
        exact of_decide_eq_false (Bool.eq_false_iff.2 h)
  have:=key l.reverse
  rwa [List.reverse_reverse]at this
theorem B4Z {l:List Rat} (h:Tr l) (hl:0<l.length):co l (l.length-1)≠0:=by
  apply h
  unfold co
  rw [List.getD_eq_getElem?_getD,List.getLast?_eq_getElem?,List.getElem?_eq_getElem (by omega)];rfl
theorem B5S {l m:List Rat} (hl:Tr l) (hm:Tr m) (h:∀j,co l j=co m j):l=m:=by
  have le:∀{l m:List Rat},Tr l→(∀j,co l j=co m j)→l.length≤m.length:=fun {l m} hl h=>by
    rcases Nat.lt_or_ge m.length l.length with h1|h1
    · exact absurd ((h _).trans (Z4 (by omega))) (B4Z hl (by omega))
    · exact h1
  have e:l.length=m.length:=Nat.le_antisymm (le hl h) (le hm fun j=>(h j).symm)
  apply List.ext_getElem e
  intro j h1 h2
  have:=h j
  unfold co at this
  rwa [List.getD_eq_getElem?_getD,List.getD_eq_getElem?_getD,List.getElem?_eq_getElem h1,List.getElem?_eq_getElem h2]at this
theorem A5N {n j:Nat} {c:Nat→Rat}:co (pl n c) j=if j<n then c j else 0:=(D2J _ _).trans E5E
theorem A0e {n:Nat} {c:Nat→Rat}:Tr (pl n c):=F8f _
theorem A6S (n:Nat) (c:Nat→Rat):(pl n c).length≤n:=by have:=B4F zr (tb n c);rwa [H6]at this
theorem F4l {l:List Rat} {n:Nat} (h:Tr l) (hc:∀j,n≤j→co l j=0):l.length≤n:=by
  rcases Nat.lt_or_ge n l.length with h1|h1
  · exact absurd (hc _ (by omega)) (B4Z h (by omega))
  · exact h1
theorem Tr.trim {l:List Rat} (h:Tr l):I6 zr l=l:=F3m fun x hx=>decide_eq_false (h x hx)
theorem E7e {l:List Rat} {n:Nat} {c:Nat→Rat} (h:Tr l) (hc:∀j,co l j=if j<n then c j else 0):l=pl n c:=B5S h A0e fun j=>(hc j).trans A5N.symm
theorem A5B {l:List Rat} {i:Nat} (h:i<l.length):C4 d0 (l.map fr) (i:Int)=fr (co l i):=by
  unfold C4 co
  rw [Int.toNat_natCast,List.getD_eq_getElem?_getD,List.getElem?_map,List.getD_eq_getElem?_getD,List.getElem?_eq_getElem h];rfl
theorem B7P {n:Nat} {c:Nat→Rat}:I6 zq (tb n fun j=>fr (c j))=(pl n c).map fr:=by
  rw [←A7h fr,C4M,D4a];rfl
def Sl (f:List Rat):Prop:=f.length<1000000∧∀a,a∈f→Sm 10000 a
theorem Sl.co {f:List Rat} (h:Sl f) (j:Nat):Sm 10000 (co f j):=by
  rcases Nat.lt_or_ge j f.length with h1|h1
  · exact h.2 _ (D2t h1)
  · rw [Z4 h1];exact D5r.mono (by decide)
theorem Sl.nil:Sl []:=⟨by decide,fun a h=>by cases h⟩
theorem Sl.pl {n:Nat} {c:Nat→Rat} (hn:n<1000000) (h:∀j,j<n→Sm 10000 (c j)):Sl (pl n c):=
  ⟨Nat.lt_of_le_of_lt (A6S n c) hn,fun a ha=>by obtain⟨j,hj,rfl⟩:=B5M (B0Q ha);exact h j hj⟩
theorem D5z {f:List Rat} {i:Nat} (hi:i<1099511627776):Ev (fun k=>m9 k (f.map fr) (i:Int)) (fr (co f i)):=by
  show Ev (fun k=>B4l (E2 k) _ _) _
  unfold B4l
  rw [List.length_map]
  refine C7 (by omega) ?_
  rcases Nat.lt_or_ge i f.length with h|h
  · refine C7 (by omega) (L7 (by omega) (by omega) ?_)
    rw [A5B h];exact Ev.now _
  · refine C1 (by omega) (Ev.bind (C0r (i:=0) (by decide) (by decide)) ?_)
    rw [Z4 h];exact Ev.now _
theorem D8F {f:List Rat} {i:Nat} (hi:i<1099511627776):Ev (fun k=>A2j k (f.map fr) (i:Int)) (fr (co f i)):=by
  show Ev (fun k=>B3S (E9 k) _ _) _
  unfold B3S
  rw [List.length_map]
  rcases Nat.lt_or_ge i f.length with h|h
  · refine C1 (by omega) (L7 (by omega) (by omega) ?_)
    rw [A5B h];exact Ev.now _
  · refine C7 (by omega) (Ev.bind (B4Y (i:=0) (by decide) (by decide)) ?_)
    rw [Z4 h];exact Ev.now _
def O7 (f g:List Rat):List Rat:=pl (max f.length g.length) fun j=>co f j+co g j
def A6c (f g:List Rat):List Rat:=pl (max f.length g.length) fun j=>co f j-co g j
section
variable {f g:List Rat} (hf:Sl f) (hg:Sl g)
include hf hg
theorem C2b:Ev (fun k=>J6 k (f.map fr) (g.map fr)) ((O7 f g).map fr):=by
  have:=hf.1;have:=hg.1
  show Ev (fun k=>B90 (A0R k) _ _) _
  unfold B90
  rw [List.length_map,List.length_map,B2m]
  refine C1 (by omega) (C1 (Int.le_refl _) (C1 (by rw [Int.toNat_natCast];omega) ?_))
  rw [Int.toNat_natCast,List.length_replicate,B1G]
  refine X5 (n:=max f.length g.length) (by omega) (fun k i (s:FP)=>A0R k (f.map fr) (g.map fr) ((max f.length g.length:Nat):Int) i s)
    (fun i=>tb (max f.length g.length) fun j=>if j<i then fr (co f j+co g j)else d0) ?_ fun i hi ih=>?_
  · show Ev (fun k=>A8I (A0R k) (E5 k) (L3 k) (m9 k) _ _ _ _ _) _
    unfold A8I
    refine C7 (by omega) ?_
    rw [q7 (h':=fun j=>fr (co f j+co g j)) fun j hj=>if_pos hj]
    have h:=B8a (f:=tb (max f.length g.length) fun j=>fr (co f j+co g j)) (by rw [H6];omega)
    rw [B7P]at h
    exact Ev.bind h (Ev.now _)
  · show Ev (fun k=>A8I (A0R k) (E5 k) (L3 k) (m9 k) _ _ _ _ _) _
    unfold A8I
    rw [wi (by omega),H6]
    refine C1 (by omega) (Ev.bind (D5z (by omega)) (Ev.bind (D5z (by omega)) (Ev.bind (D0v (hf.co i) (hg.co i)) (L7 (by omega) (by omega) ?_))))
    rw [A4w (h':=fun j=>if j<i+1 then fr (co f j+co g j)else d0) hi fun j hj=>?_]
    · exact ih
    · by_cases e:j=i
      · subst e;rw [if_pos (by omega),if_pos rfl]
      · rw [if_neg e];by_cases e2:j<i
        · rw [if_pos e2,if_pos (by omega)]
        · rw [if_neg e2,if_neg (by omega)]
theorem B6F:Ev (fun k=>I2 k (f.map fr) (g.map fr)) ((O7 f g).map fr):=by
  have:=hf.1;have:=hg.1
  show Ev (fun k=>B20 (A1S k) _ _) _
  unfold B20
  refine X5 (n:=max f.length g.length) (by omega) (fun k i (s:FP)=>A1S k (f.map fr) (g.map fr) i s)
    (fun i=>tb i fun j=>fr (co f j+co g j)) ?_ fun i hi ih=>?_
  · show Ev (fun k=>A7z (A1S k) (F7 k) (P4 k) (A2j k) _ _ _ _) _
    unfold A7z
    rw [List.length_map,List.length_map,B2m,←A7h fr]
    exact C7 (by omega) (Ev.bind (B4j (by rw [H6];omega)) (Ev.now _))
  · show Ev (fun k=>A7z (A1S k) (F7 k) (P4 k) (A2j k) _ _ _ _) _
    unfold A7z
    rw [List.length_map,List.length_map,B2m,wi (by omega),H6]
    refine C1 (by omega) (Ev.bind (D8F (by omega)) (Ev.bind (D8F (by omega)) (Ev.bind (D6b (hf.co i) (hg.co i)) (C1 (by omega) ?_))))
    rw [A6K (h:=fun j=>fr (co f j+co g j))]
    exact ih
end
theorem D0T (f g:List Rat) (j:Nat):co (O7 f g) j=co f j+co g j:=by
  unfold O7
  rw [A5N]
  split
  · rfl
  · rw [Z4 (show f.length≤j by omega),Z4 (show g.length≤j by omega),Rat.add_zero]
theorem C3X (f g:List Rat) (j:Nat):co (A6c f g) j=co f j-co g j:=by
  unfold A6c
  rw [A5N]
  split
  · rfl
  · rw [Z4 (show f.length≤j by omega),Z4 (show g.length≤j by omega)];decide +kernel
theorem E1U (c:Rat) (g:List Rat) (j:Nat):co (scl c g) j=co g j*c:=by
  unfold scl
  rw [D2J]
  unfold co
  rw [List.getD_eq_getElem?_getD,List.getD_eq_getElem?_getD,List.getElem?_map]
  cases g[j]? with
  |none=>exact(Rat.zero_mul c).symm
  |some a=>rfl
theorem F0z (c:Rat) (g:List Rat):(scl c g).length≤g.length:=by have:=B4F zr (g.map (· *c));rwa [List.length_map]at this
theorem E7y (f g:List Rat):O7 f (scl (-1) g)=A6c f g:=by
  refine B5S A0e A0e fun j=>?_
  rw [D0T,C3X,E1U,Rat.mul_neg,Rat.mul_one,Rat.sub_eq_add_neg]
theorem D7U:Sm 8 (-1):=⟨by decide +kernel,by decide +kernel⟩
theorem E6b {f g:List Rat} (hf:Sl f) (hg:g.length<1000000∧∀a,a∈g→Sm 9000 a):Ev (fun k=>A2T k (f.map fr) (g.map fr)) ((A6c f g).map fr):=by
  show Ev (fun k=>B51 (I2 k) (E9 k) (A5k k) _ _) _
  unfold B51
  have h2:Sl (scl (-1) g):=⟨Nat.lt_of_le_of_lt (F0z _ _) hg.1,fun a ha=>by
    obtain⟨b,hb,rfl⟩:=List.mem_map.1 (B0Q ha)
    exact((hg.2 b hb).mul D7U).mono (by decide)⟩
  have h1:=E2l (g:=g) (c:= -1) hg.1 (fun a ha=>(hg.2 a ha).mono (by decide)) (D7U.mono (by decide))
  have h3:=B6F hf h2
  rw [E7y]at h3
  exact Ev.bind (B4Y (i:= -1) (by decide) (by decide)) (Ev.bind h1 (Ev.bind h3 (Ev.now _)))
def K2 (f g:List Rat) (m:Nat):Nat→Rat
  |0=>0
  |i+1=>if i≤m∧m-i<g.length then K2 f g m i+co f i*co g (m-i)else K2 f g m i
def R4 (f g:List Rat):List Rat:=pl (f.length+g.length-1) fun m=>K2 f g m f.length
theorem D2B (f:List Rat) (m:Nat):∀i,K2 f [] m i=0
  |0=>rfl
  |i+1=>by unfold K2;rw [if_neg (fun h=>Nat.not_lt_zero _ h.2)];exact D2B f m i
theorem D2Q {n:Nat} {c:Nat→Rat} (h:∀j,j<n→c j=0):pl n c=[]:=B5S A0e (fun a h=>by cases h) fun j=>by
  rw [A5N]
  show _=(0:Rat)
  split
  · exact h j (by assumption)
  · rfl
theorem F2t (g:List Rat):R4 [] g=[]:=D2Q fun j _=>rfl
theorem F3z (f:List Rat):R4 f []=[]:=D2Q fun j _=>D2B f j _
structure Ml (f g:List Rat):Prop where
  lf:f.length<400000
  lg:g.length<400000
  c:∀m i,i≤f.length→Sm 10000 (K2 f g m i)
  sf:∀i,Sm 10000 (co f i)
  sg:∀i,Sm 10000 (co g i)
  p:∀i j,Sm 10000 (co f i*co g j)
section
variable {f g:List Rat} (h:Ml f g)
include h
theorem D4x:Ev (fun k=>L5 k (f.map fr) (g.map fr)) ((R4 f g).map fr):=by
  have lf:=h.lf;have lg:=h.lg
  show Ev (fun k=>B91 (q9 k) _ _) _
  unfold B91
  rw [List.length_map,List.length_map]
  rcases Nat.eq_zero_or_pos f.length with e|e
  · rw [List.length_eq_zero_iff.1 e,F2t];exact C1 rfl (Ev.now _)
  refine C7 (by omega) ?_
  rcases Nat.eq_zero_or_pos g.length with e'|e'
  · rw [List.length_eq_zero_iff.1 e',F3z];exact C1 rfl (Ev.now _)
  refine C7 (by omega) ?_
  have hN:wrap64 (wrap64 ((f.length:Int)+(g.length:Int))-1)=((f.length+g.length-1:Nat):Int):=by rw [I4 (x:=(f.length:Int)+_) (by omega) (by omega),I4 (by omega) (by omega)];omega
  rw [hN]
  refine C1 (by omega) (C1 (Int.le_refl _) (C1 (by rw [Int.toNat_natCast];omega) ?_))
  rw [Int.toNat_natCast,List.length_replicate,B1G]
  generalize hn:f.length+g.length-1=N
  have fin:Ev (fun k=>U8 k (g.map fr) (f.map fr) (f.length:Int) 0 (tb N fun m=>fr (K2 f g m 0))) ((R4 f g).map fr):=by
    refine X5 (n:=f.length) (by omega) (fun k i (s:FP)=>U8 k (g.map fr) (f.map fr) (f.length:Int) i s) (fun i=>tb N fun m=>fr (K2 f g m i)) ?_ fun i hi ih=>?_
    · show Ev (fun k=>A7i (U8 k) (o4 k) (E5 k) (J3 k) _ _ _ _ _) _
      unfold A7i
      have h1:=B8a (f:=tb N fun m=>fr (K2 f g m f.length)) (by rw [H6];omega)
      rw [B7P]at h1
      unfold R4
      rw [hn]
      exact C7 (by omega) (Ev.bind h1 (Ev.now _))
    · show Ev (fun k=>A7i (U8 k) (o4 k) (E5 k) (J3 k) _ _ _ _ _) _
      unfold A7i
      rw [wi (by omega),A5B hi]
      refine N5 (by omega) (by omega) (by rw [List.length_map];omega) (Ev.bind (B7z _) ?_)
      rw [B4r]
      rcases Decidable.em (co f i=0)with z|z
      · refine A5u (decide_eq_true z) ?_
        rw [q7 (h':=fun m=>fr (K2 f g m (i+1))) fun m _=>?_]
        · exact ih
        · show fr (K2 f g m i)=fr (if _ then _ else _)
          split
          · rw [z,Rat.zero_mul,Rat.add_zero]
          · rfl
      · refine n7 (decide_eq_false z) ?_
        rw [List.length_map]
        have:=X5 (n:=g.length) (by omega) (fun k j (s:FP)=>o4 k (g.map fr) (i:Int) (f.map fr) (f.length:Int) (i:Int) (g.map fr) (g.length:Int) j s (fr (co f i)))
          (fun j=>tb N fun m=>fr (if i≤m∧m<i+j then K2 f g m i+co f i*co g (m-i)else K2 f g m i)) (r:=(R4 f g).map fr) ?_ fun j hj jh=>?_
        · rw [q7 (h':=fun m=>fr (K2 f g m i)) fun m _=>by rw [if_neg (by omega)]]at this
          exact this
        · show Ev (fun k=>A8j (U8 k) (o4 k) (F3 k) (L3 k) _ _ _ _ _ _ _ _ _ _) _
          unfold A8j
          rw [wi (i:=i) (by omega),q7 (h':=fun m=>fr (K2 f g m (i+1))) fun m _=>?_]
          · exact C7 (by omega) ih
          · show fr (if _ then _ else _)=fr (if _ then _ else _)
            by_cases c:i≤m∧m<i+g.length
            · rw [if_pos c,if_pos (by omega)]
            · rw [if_neg c,if_neg (by omega)]
        · show Ev (fun k=>A8j (U8 k) (o4 k) (F3 k) (L3 k) _ _ _ _ _ _ _ _ _ _) _
          unfold A8j
          have hij:wrap64 ((i:Int)+(j:Int))=((i+j:Nat):Int):=by rw [I4 (by omega) (by omega)];omega
          rw [hij,wi (by omega),H6,A5B hj,B3q (show i+j<N by omega),if_neg (by omega)]
          refine N5 (by omega) (by omega) (by rw [List.length_map];omega) (L7 (by omega) (by omega) (Ev.bind (C6s (h.sf i) (h.sg j)) (Ev.bind (D0v (h.c _ _ (by omega)) (h.p i j)) (L7 (by omega) (by omega) ?_))))
          rw [A4w (h':=fun m=>fr (if i≤m∧m<i+(j+1)then K2 f g m i+co f i*co g (m-i)else K2 f g m i)) (by omega) fun m hm=>?_]
          · exact jh
          · by_cases c:m=i+j
            · subst c;rw [if_pos rfl,if_pos (by omega),show i+j-i=j by omega]
            · rw [if_neg c]
              by_cases c2:i≤m∧m<i+j
              · rw [if_pos c2,if_pos (by omega)]
              · rw [if_neg c2,if_neg (by omega)]
  refine X5 (n:=N) (by omega) (fun k i (s:FP)=>q9 k (f.map fr) (g.map fr) (N:Int) i s) (fun i=>tb N fun j=>if j<i then fr 0 else d0) ?_ fun i hi ih=>?_
  · show Ev (fun k=>A9g (q9 k) (U8 k) (E2 k) _ _ _ _ _) _
    unfold A9g
    rw [List.length_map,q7 (h':=fun m=>fr (K2 f g m 0)) fun j hj=>by rw [if_pos hj];rfl]
    exact C7 (by omega) fin
  · show Ev (fun k=>A9g (q9 k) (U8 k) (E2 k) _ _ _ _ _) _
    unfold A9g
    rw [wi (by omega),H6]
    refine C1 (by omega) (Ev.bind (C0r (i:=0) (by decide) (by decide)) (L7 (by omega) (by omega) ?_))
    rw [A4w (h':=fun j=>if j<i+1 then fr 0 else d0) hi fun j hj=>?_]
    · exact ih
    · by_cases e:j=i
      · subst e;rw [if_pos (by omega),if_pos rfl];rfl
      · rw [if_neg e];by_cases e2:j<i
        · rw [if_pos e2,if_pos (by omega)]
        · rw [if_neg e2,if_neg (by omega)]
theorem C3Q:Ev (fun k=>Q9 k (f.map fr) (g.map fr)) ((R4 f g).map fr):=by
  have lf:=h.lf;have lg:=h.lg
  show Ev (fun k=>B45 (A0F k) _ _) _
  unfold B45
  have hN:wrap64 (wrap64 ((f.length:Int)+(g.length:Int))-1)=(f.length:Int)+(g.length:Int)-1:=by rw [I4 (x:=(f.length:Int)+_) (by omega) (by omega),I4 (by omega) (by omega)]
  refine X5 (n:=f.length+g.length-1) (by omega) (fun k i (s:FP)=>A0F k (f.map fr) (g.map fr) i s) (fun i=>tb i fun m=>fr (K2 f g m f.length)) ?_ fun m hm ih=>?_
  · show Ev (fun k=>A8e (v3 k) (F7 k) (E9 k) _ _ _ _) _
    unfold A8e
    rw [List.length_map,List.length_map,hN,←A7h fr]
    exact C7 (by omega) (Ev.bind (B4j (by rw [H6];omega)) (Ev.now _))
  · show Ev (fun k=>A8e (v3 k) (F7 k) (E9 k) _ _ _ _) _
    unfold A8e
    rw [List.length_map,List.length_map,hN]
    refine C1 (by omega) (Ev.bind (B4Y (i:=0) (by decide) (by decide)) ?_)
    refine X5 (n:=f.length) (by omega) (fun k i (s:FV)=>v3 k (f.map fr) (g.map fr) (m:Int) (f.length:Int) i (tb m fun m=>fr (K2 f g m f.length)) s) (fun i=>fr (K2 f g m i)) ?_ fun i hi jh=>?_
    · show Ev (fun k=>A8K (A0F k) (v3 k) (P4 k) (M4 k) _ _ _ _ _ _ _) _
      unfold A8K
      rw [H6,A6K (h:=fun m=>fr (K2 f g m f.length)),wi (i:=m) (by omega)]
      exact C7 (by omega) (C1 (by omega) ih)
    · show Ev (fun k=>A8K (A0F k) (v3 k) (P4 k) (M4 k) _ _ _ _ _ _ _) _
      unfold A8K
      have hw:wrap64 ((m:Int)-(i:Int))=(m:Int)-(i:Int):=I4 (by omega) (by omega)
      rw [List.length_map,List.length_map,hw,wi (by omega)]
      refine C1 (by omega) ?_
      by_cases c:i≤m∧m-i<g.length
      · have e:(m:Int)-(i:Int)=((m-i:Nat):Int):=by omega
        rw [e,A5B hi,A5B c.2]
        refine C1 (by omega) (C1 (by omega) (L7 (by omega) (by omega) (L7 (by omega) (by omega) (Ev.bind (C3v (h.sf i) (h.sg _)) (Ev.bind (D6b (h.c m i (by omega)) (h.p i _)) ?_)))))
        have e2:K2 f g m (i+1)=K2 f g m i+co f i*co g (m-i):=if_pos c
        rw [e2]at jh
        exact jh
      · have e2:K2 f g m (i+1)=K2 f g m i:=if_neg c
        rw [e2]at jh
        by_cases c1:i≤m
        · exact C1 (by omega) (C7 (by omega) jh)
        · exact C7 (by omega) jh
end
theorem E2p {f:FP} (hl:f.length<1000000):Ev (fun k=>A4F k f) f:=by
  show Ev (fun k=>A6j f) f
  unfold A6j
  exact C1 (by rw [List.length_nil];omega) (Ev.now _)
theorem F1B {α:Type} {n m:Nat} {h:Nat→α} (hm:m≤n):slice_ (tb n h) 0 (m:Int)=tb m h:=by
  unfold slice_
  rw [Int.toNat_natCast,show((0:Int)).toNat=0 from rfl,List.drop_zero]
  apply List.ext_getElem?
  intro j
  rw [List.getElem?_take]
  split
  · rename_i h;rw [A5P h,A5P (by omega)]
  · rename_i h;rw [List.getElem?_eq_none (by rw [H6];omega)]
section
variable (g:List Rat) (v:Rat)
def Y6 (k:Nat) (r:Nat→Rat) (m:Nat):Rat:=if k≤m∧m<k+g.length then r m-r (k+g.length-1)*v*co g (m-k)else r m
def dv:Nat→(Nat→Rat)→Nat→Rat
  |0,r=>r
  |k+1,r=>dv k (Y6 g v k r)
def qv:Nat→(Nat→Rat)→Nat→Rat
  |0,r=>fun _=>0
  |k+1,r=>fun j=>if j=k then r (k+g.length-1)*v else qv k (Y6 g v k r) j
def dOk:Nat→(Nat→Rat)→Prop
  |0,r=>∀m,Sm 9000 (r m)
  |k+1,r=>(∀m,Sm 9000 (r m))∧Sm 9000 (r (k+g.length-1)*v)∧(∀m,Sm 9000 (r (k+g.length-1)*v*co g m))∧dOk k (Y6 g v k r)
end
def A4t (n:Nat) (c:Nat→Rat):List Rat:=pl (n-1) c
def inv (g:List Rat):Rat:=(co g (g.length-1))⁻¹
def S8 (f g:List Rat):List Rat:=A4t g.length (dv g (inv g) (f.length+1-g.length) (co f))
def A8O (f g:List Rat):List Rat:=pl (f.length+1-g.length) (qv g (inv g) (f.length+1-g.length) (co f))
section
variable {g:List Rat} {v:Rat} (hg:Sl g) (h0:0<g.length) (hv:Sm 10000 v)
include hg h0 hv
theorem E9o {L Q:Nat} (hL:L<1000000):∀(K:Nat) (r q:Nat→Rat),dOk g v K r→K≤Q→K+g.length≤L+1→g.length≤L+1→Q<1000000→
    Ev (fun k=>T5 k (g.map fr) (g.length:Int) ((K:Int)-1) (tb L fun m=>fr (r m)) (tb Q fun j=>fr (q j)) (fr v))
      ((pl Q fun j=>if j<K then qv g v K r j else q j).map fr,(A4t g.length (dv g v K r)).map fr):=by
  have lg:=hg.1
  intro K
  induction K with
  | zero=>
    intro r q hd hQ hK hn hQ2
    refine Ev.step (f:=fun k=>T5 (k+1) (g.map fr) (g.length:Int) (((0:Nat):Int)-1) (tb L fun m=>fr (r m)) (tb Q fun j=>fr (q j)) (fr v)) (fun k=>rfl) ?_
    show Ev (fun k=>A9c (T5 k) (m7 k) (E5 k) (F3 k) (J3 k) _ _ _ _ _ _) _
    unfold A9c
    have h1:=B8a (f:=tb Q fun j=>fr (q j)) (by rw [H6];omega)
    rw [B7P]at h1
    have h2:=B8a (f:=tb (g.length-1) fun j=>fr (r j)) (by rw [H6];omega)
    rw [B7P]at h2
    have hw:wrap64 ((g.length:Int)-1)=((g.length-1:Nat):Int):=by rw [I4 (by omega) (by omega)];omega
    rw [hw,H6,F1B (by omega)]
    exact C7 (by omega) (Ev.bind h1 (C1 (by decide) (C1 (by omega) (C1 (by omega) (C1 (Int.le_refl _) (Ev.bind h2 (Ev.now _)))))))
  | succ K ih=>
    intro r q hd hQ hK hn hQ2
    obtain⟨d1,d2,d3,d4⟩:=hd
    refine Ev.step (f:=fun k=>T5 (k+1) (g.map fr) (g.length:Int) (((K+1:Nat):Int)-1) (tb L fun m=>fr (r m)) (tb Q fun j=>fr (q j)) (fr v)) (fun k=>rfl) ?_
    have hk:((K+1:Nat):Int)-1=(K:Int):=by omega
    rw [hk]
    show Ev (fun k=>A9c (T5 k) (m7 k) (E5 k) (F3 k) (J3 k) _ _ _ _ _ _) _
    unfold A9c
    have hw:wrap64 (wrap64 ((K:Int)+(g.length:Int))-1)=((K+g.length-1:Nat):Int):=by rw [I4 (x:=(K:Int)+_) (by omega) (by omega),I4 (by omega) (by omega)];omega
    have hw2:wrap64 ((K:Int)-1)=(K:Int)-1:=I4 (by omega) (by omega)
    rw [hw,hw2,H6,H6,B3q (show K+g.length-1<L by omega)]
    refine C1 (by omega) (L7 (by omega) (by omega) (Ev.bind (C6s ((d1 _).mono (by decide)) hv) (L7 (by omega) (by omega) (Ev.bind (B7z _) ?_))))
    have hq:=A4w (n:=Q) (i:=K) (h:=fun j=>fr (q j)) (h':=fun j=>fr (if j=K then r (K+g.length-1)*v else q j)) (a:=fr (r (K+g.length-1)*v)) (by omega) fun j hj=>by
      by_cases e:j=K
      · rw [if_pos e,if_pos e]
      · rw [if_neg e,if_neg e]
    have hi:=ih (Y6 g v K r) (fun j=>if j=K then r (K+g.length-1)*v else q j) d4 (by omega) (by omega) hn hQ2
    have eq:(fun j=>if j<K then qv g v K (Y6 g v K r) j else if j=K then r (K+g.length-1)*v else q j)=fun j=>if j<K+1 then qv g v (K+1) r j else q j:=by
      funext j
      show _=if j<K+1 then(if j=K then _ else _)else _
      by_cases e:j<K
      · rw [if_pos e,if_pos (by omega),if_neg (by omega)]
      · rw [if_neg e]
        by_cases e2:j=K
        · rw [if_pos e2,if_pos (by omega),if_pos e2]
        · rw [if_neg e2,if_neg (by omega)]
    rw [eq]at hi
    rw [show((fr (r (K+g.length-1)*v)).1,(fr (r (K+g.length-1)*v)).2)=fr (r (K+g.length-1)*v)from rfl,hq,B4r]
    rcases Decidable.em (r (K+g.length-1)*v=0)with z|z
    · refine A5u (decide_eq_true z) ?_
      rw [q7 (h':=fun m=>fr (Y6 g v K r m)) fun m _=>?_]
      · exact hi
      · show fr (r m)=fr (if _ then _ else _)
        rw [z,Rat.zero_mul,Rat.sub_eq_add_neg,Rat.neg_zero,Rat.add_zero]
        split<;>rfl
    · refine n7 (decide_eq_false z) ?_
      rw [List.length_map]
      have:=X5 (n:=g.length) (by omega) (fun k j (s:FP)=>m7 k (g.map fr) (g.length:Int) (K:Int) (g.length:Int) j s (tb Q fun j=>fr (if j=K then r (K+g.length-1)*v else q j)) (fr v) (fr (r (K+g.length-1)*v)))
        (fun i=>tb L fun m=>fr (if K≤m∧m<K+i then r m-r (K+g.length-1)*v*co g (m-K)else r m)) (r:=((pl Q fun j=>if j<K+1 then qv g v (K+1) r j else q j).map fr,(A4t g.length (dv g v K (Y6 g v K r))).map fr)) ?_ fun j hj jh=>?_
      · rw [q7 (h':=fun m=>fr (r m)) fun m _=>by rw [if_neg (by omega)]]at this
        exact this
      · show Ev (fun k=>A8X (T5 k) (m7 k) (N2 k) (F3 k) _ _ _ _ _ _ _ _ _) _
        unfold A8X
        rw [hw2]
        exact C7 (by omega) hi
      · show Ev (fun k=>A8X (T5 k) (m7 k) (N2 k) (F3 k) _ _ _ _ _ _ _ _ _) _
        unfold A8X
        have hij:wrap64 ((K:Int)+(j:Int))=((K+j:Nat):Int):=by rw [I4 (by omega) (by omega)];omega
        rw [hij,wi (i:=j) (by omega),H6,A5B hj,B3q (show K+j<L by omega),if_neg (by omega)]
        refine C1 (by omega) (L7 (by omega) (by omega) (L7 (by omega) (by rw [List.length_map];omega) (Ev.bind (C6s (d2.mono (by decide)) (hg.co j)) (Ev.bind (E6z ((d1 _).mono (by decide)) ((d3 j).mono (by decide))) (L7 (by omega) (by omega) ?_)))))
        rw [A4w (h':=fun m=>fr (if K≤m∧m<K+(j+1)then r m-r (K+g.length-1)*v*co g (m-K)else r m)) (by omega) fun m hm=>?_]
        · exact jh
        · by_cases c:m=K+j
          · subst c;rw [if_pos rfl,if_pos (by omega),show K+j-K=j by omega]
          · rw [if_neg c]
            by_cases c2:K≤m∧m<K+j
            · rw [if_pos c2,if_pos (by omega)]
            · rw [if_neg c2,if_neg (by omega)]
end
theorem F0u (f:List Rat):f.map fr=tb f.length fun m=>fr (co f m):=by
  rw [←A7h fr]
  congr 1
  apply List.ext_getElem?
  intro j
  rcases Nat.lt_or_ge j f.length with h|h
  · rw [A5P h,List.getElem?_eq_getElem h];unfold co;rw [List.getD_eq_getElem?_getD,List.getElem?_eq_getElem h];rfl
  · rw [List.getElem?_eq_none h,List.getElem?_eq_none (by rw [H6];exact h)]
theorem C9Q {f g:List Rat} (hf:Tr f) (h:f.length<g.length):S8 f g=f:=by
  unfold S8 A4t
  rw [show f.length+1-g.length=0 by omega]
  refine B5S A0e hf fun j=>?_
  rw [A5N]
  split
  · rfl
  · rw [Z4 (by omega)]
theorem F6y {f g:List Rat} (h:f.length<g.length):A8O f g=[]:=by
  unfold A8O
  rw [show f.length+1-g.length=0 by omega]
  rfl
theorem E5V {f g:List Rat} (hf:f.length<400000) (ht:Tr f) (hg:Sl g) (h0:0<g.length) (hg0:Tr g) (hv:Sm 10000 (inv g)) (hd:dOk g (inv g) (f.length+1-g.length) (co f)):
    Ev (fun k=>X2 k (f.map fr) (g.map fr)) ((A8O f g).map fr,(S8 f g).map fr):=by
  have lg:=hg.1
  show Ev (fun k=>B5D (v4 k) (A4F k) _ _) _
  unfold B5D
  refine Ev.bind (E2p (by rw [List.length_map];omega)) ?_
  rw [List.length_map,List.length_map]
  by_cases c:f.length<g.length
  · rw [C9Q ht c,F6y c];exact C1 (by omega) (Ev.now _)
  have hw:wrap64 (wrap64 ((f.length:Int)-(g.length:Int))+1)=((f.length+1-g.length:Nat):Int):=by rw [I4 (x:=(f.length:Int)-_) (by omega) (by omega),I4 (by omega) (by omega)];omega
  have hw2:wrap64 ((f.length:Int)-(g.length:Int))=((f.length+1-g.length:Nat):Int)-1:=by rw [I4 (by omega) (by omega)];omega
  have hw3:wrap64 ((g.length:Int)-1)=((g.length-1:Nat):Int):=by rw [I4 (by omega) (by omega)];omega
  rw [hw]
  refine C7 (by omega) (C1 (by omega) (C1 (Int.le_refl _) (C1 (by rw [Int.toNat_natCast];omega) ?_)))
  rw [Int.toNat_natCast,List.length_replicate,B1G]
  refine X5 (n:=f.length+1-g.length) (by omega) (fun k i (s:FP)=>v4 k (f.map fr) (g.map fr) (g.length:Int) ((f.length+1-g.length:Nat):Int) i (f.map fr) s) (fun i=>tb (f.length+1-g.length) fun j=>if j<i then fr 0 else d0) ?_ fun i hi ih=>?_
  · show Ev (fun k=>A8V (v4 k) (T5 k) (E2 k) (Q7 k) _ _ _ _ _ _ _) _
    unfold A8V
    rw [hw3,List.length_map,List.length_map,hw2,A5B (show g.length-1<g.length by omega),q7 (h':=fun m=>fr 0) fun j hj=>if_pos hj]
    have h1:=E9o hg h0 hv (L:=f.length) (Q:=f.length+1-g.length) (by omega) (f.length+1-g.length) (co f) (fun _=>0) hd (Nat.le_refl _) (by omega) (by omega) (by omega)
    rw [←F0u]at h1
    have e:(pl (f.length+1-g.length) fun j=>if j<f.length+1-g.length then qv g (inv g) (f.length+1-g.length) (co f) j else 0)=A8O f g:=by
      unfold A8O pl
      rw [q7 fun j hj=>if_pos hj]
    rw [e]at h1
    exact C7 (by omega) (L7 (by omega) (by omega) (Ev.bind (F8i (B4Z hg0 h0)) h1))
  · show Ev (fun k=>A8V (v4 k) (T5 k) (E2 k) (Q7 k) _ _ _ _ _ _ _) _
    unfold A8V
    rw [wi (by omega),H6]
    refine C1 (by omega) (Ev.bind (C0r (i:=0) (by decide) (by decide)) (L7 (by omega) (by omega) ?_))
    rw [A4w (h':=fun j=>if j<i+1 then fr 0 else d0) hi fun j hj=>?_]
    · exact ih
    · by_cases e:j=i
      · subst e;rw [if_pos (by omega),if_pos rfl];rfl
      · rw [if_neg e];by_cases e2:j<i
        · rw [if_pos e2,if_pos (by omega)]
        · rw [if_neg e2,if_neg (by omega)]
theorem E8q {f g:List Rat} {m:Nat}:∀{i},f.length≤i→K2 f g m i=K2 f g m f.length:=by
  intro i h
  induction i with
  |zero=>rw [show f.length=0 by omega]
  | succ i ih=>
    rcases Nat.lt_or_ge i f.length with h1|h1
    · rw [show i+1=f.length by omega]
    · rw [←ih h1]
      show(if _ then _ else _)=_
      split
      · rw [Z4 h1,Rat.zero_mul,Rat.add_zero]
      · rfl
theorem E4q {f g:List Rat} {m:Nat} (h:f.length+g.length-1≤m):∀{i},i≤f.length→K2 f g m i=0:=by
  intro i hi
  induction i with
  |zero=>rfl
  | succ i ih=>
    show(if _ then _ else _)=_
    rw [if_neg (by omega)];exact ih (by omega)
theorem C7H (f g:List Rat) (m:Nat):co (R4 f g) m=K2 f g m f.length:=by
  unfold R4
  rw [A5N]
  split
  · rfl
  · exact(E4q (by omega) (Nat.le_refl _)).symm
def mono (k:Nat) (c:Rat):List Rat:=pl (k+1) fun j=>if j=k then c else 0
theorem B3e (k:Nat) (c:Rat) (j:Nat):co (mono k c) j=if j=k then c else 0:=by
  unfold mono
  rw [A5N]
  split
  · rfl
  · rw [if_neg (by omega)]
theorem B0y (k:Nat) (c:Rat):(mono k c).length≤k+1:=A6S _ _
theorem C4f (k:Nat) (c:Rat) (g:List Rat) (m:Nat):∀i,i≤k→K2 (mono k c) g m i=0
  |0,_=>rfl
  | i+1,h=>by
    show(if _ then _ else _)=_
    rw [C4f k c g m i (by omega),B3e,if_neg (show¬i=k by omega),Rat.zero_mul,Rat.add_zero]
    split<;>rfl
theorem D4b (k:Nat) (c:Rat) (g:List Rat) (m:Nat):K2 (mono k c) g m (k+1)=if k≤m∧m-k<g.length then c*co g (m-k)else 0:=by
  show(if _ then _ else _)=_
  rw [C4f k c g m k (Nat.le_refl _),B3e,if_pos rfl,Rat.zero_add]
theorem D8V (k:Nat) (c:Rat) (g:List Rat) (m:Nat):co (R4 (mono k c) g) m=if k≤m∧m-k<g.length then c*co g (m-k)else 0:=by
  rw [C7H,←E8q (B0y k c),D4b]
theorem sm0:Sm 9000 0:=D5r.mono (by decide)
theorem F1G {k:Nat} {c:Rat} (hk:k<400000):Ev (fun x=>A2H x (fr c) (k:Int)) ((mono k c).map fr):=by
  show Ev (fun k=>B21 (A0q k) _ _) _
  unfold B21
  refine X5 (n:=k) (by omega) (fun x i (s:FP)=>A0q x (k:Int) i (fr c) s) (fun i=>tb i fun _=>fr 0) ?_ fun i hi ih=>?_
  · show Ev (fun k=>A9K (A0q k) (F7 k) (E9 k) _ _ _ _) _
    unfold A9K
    have e:(tb k fun _=>fr 0)++[fr c]=(tb (k+1) fun j=>if j=k then c else 0).map fr:=by
      rw [A7h fr,←A6K,if_pos rfl]
      congr 1
      exact q7 fun j hj=>by rw [if_neg (by omega)]
    rw [H6,e]
    exact C7 (by omega) (C1 (by omega) (Ev.bind (B4j (g:=tb (k+1) fun j=>if j=k then c else 0) (by rw [H6];omega)) (Ev.now _)))
  · show Ev (fun k=>A9K (A0q k) (F7 k) (E9 k) _ _ _ _) _
    unfold A9K
    rw [wi (by omega),H6]
    refine C1 (by omega) (Ev.bind (B4Y (i:=0) (by decide) (by decide)) (C1 (show(i+1)*40≤140737488355328 by omega) ?_))
    rw [show [((fr ((0:Int):Rat)).1,(fr ((0:Int):Rat)).2)]=[(fun _:Nat=>fr 0) i]from rfl,A6K (h:=fun _=>fr 0)]
    exact ih
theorem D5F {f:List Rat} (hl:f.length<1000000) (h:0<f.length):Ev (fun k=>Z7 k (f.map fr)) (fr (co f (f.length-1))):=by
  show Ev (fun k=>B80 (E9 k) _) _
  unfold B80
  have hw:wrap64 ((f.length:Int)-1)=((f.length-1:Nat):Int):=by rw [I4 (by omega) (by omega)];omega
  rw [List.length_map,hw,A5B (show f.length-1<f.length by omega)]
  exact C7 (by omega) (L7 (by omega) (by omega) (Ev.now _))
theorem C0H {g:List Rat} {v:Rat}:∀{K:Nat} {r:Nat→Rat} {j:Nat},K≤j→qv g v K r j=0
  |0,r,j,_=>rfl
  | K+1,r,j,h=>by
    show(if j=K then _ else _)=_
    rw [if_neg (by omega)]
    exact C0H (by omega)
theorem F1m {g:List Rat} {v:Rat} {k:Nat} {r:Nat→Rat} (h:r (k+g.length-1)*v=0):Y6 g v k r=r:=by
  funext m
  unfold Y6
  rw [h,Rat.zero_mul,Rat.sub_eq_add_neg,Rat.neg_zero,Rat.add_zero]
  split<;>rfl
section
variable {g:List Rat} (hg:Sl g) (h0:0<g.length) (hg0:Tr g) (hv:Sm 9000 (inv g))
include hg h0 hg0 hv
theorem F7m {k:Nat} {c:Rat} (hk:k<300000) (hl:g.length<400000) (hc:Sm 9000 c) (hp:∀m,Sm 9000 (c*co g m)):Ml (mono k c) g:=by
  have hm:∀j,co (mono k c) j=c∨co (mono k c) j=0:=fun j=>by
    rw [B3e];split
    · exact Or.inl rfl
    · exact Or.inr rfl
  refine⟨Nat.lt_of_le_of_lt (B0y k c) (by omega),hl,fun m i hi=>?_,fun i=>?_,hg.co,fun i j=>?_⟩
  · rcases Nat.lt_or_ge k i with h1|h1
    · have e:i=k+1:=by have:=B0y k c;omega
      rw [e,D4b]
      split
      · exact(hp _).mono (by decide)
      · exact sm0.mono (by decide)
    · rw [C4f k c g m i h1];exact sm0.mono (by decide)
  · rcases hm i with h|h
    · rw [h];exact hc.mono (by decide)
    · rw [h];exact sm0.mono (by decide)
  · rcases hm i with h|h
    · rw [h];exact(hp j).mono (by decide)
    · rw [h,Rat.zero_mul];exact sm0.mono (by decide)
theorem E6O (hl:g.length<400000):∀(K:Nat) (rest q:List Rat),Tr rest→rest.length<300000→K<300000→Sl q→Tr q→rest.length+1≤K+g.length→dOk g (inv g) K (co rest)→(∀j,j<K→co q j=0)→
    ∃Q,Tr Q∧(∀j,co Q j=co q j+qv g (inv g) K (co rest) j)∧Ev (fun k=>t5 k (g.map fr) (q.map fr) (rest.map fr)) (Q.map fr,(A4t g.length (dv g (inv g) K (co rest))).map fr):=by
  intro K
  induction K with
  | zero=>
    intro rest q ht hr hK hq tq hle hd hz
    refine⟨q,tq,fun j=>by show _=co q j+0;rw [Rat.add_zero],?_⟩
    refine Ev.step (f:=fun k=>t5 (k+1) (g.map fr) (q.map fr) (rest.map fr)) (fun k=>rfl) ?_
    show Ev (fun k=>A9T (t5 k) (I2 k) (A2H k) (Q9 k) (A2T k) (Z7 k) (A0L k) _ _ _) _
    unfold A9T
    rw [List.length_map,List.length_map]
    have e:A4t g.length (dv g (inv g) 0 (co rest))=rest:=B5S A0e ht fun j=>by
      unfold A4t
      rw [A5N]
      split
      · rfl
      · rw [Z4 (by omega)]
    rw [e]
    exact C7 (by omega) (Ev.now _)
  | succ K ih=>
    intro rest q ht hr hK hq tq hle hd hz
    obtain⟨d1,d2,d3,d4⟩:=hd
    by_cases c:rest.length+1≤K+g.length
    · have hc0:co rest (K+g.length-1)*inv g=0:=by rw [Z4 (by omega),Rat.zero_mul]
      have e:=F1m (g:=g) (v:=inv g) (k:=K) (r:=co rest) hc0
      rw [e]at d4
      obtain⟨Q,h1,h2,h3⟩:=ih rest q ht hr (by omega) hq tq c d4 fun j hj=>hz j (by omega)
      refine⟨Q,h1,fun j=>?_,?_⟩
      · rw [h2 j]
        show _=_+if j=K then _ else qv g (inv g) K (Y6 g (inv g) K (co rest)) j
        rw [e]
        split
        · rename_i ej;rw [hc0,ej,C0H (Nat.le_refl _)]
        · rfl
      · show Ev _ (_,(A4t g.length (dv g (inv g) K (Y6 g (inv g) K (co rest)))).map fr)
        rw [e];exact h3
    · have hlen:rest.length=K+g.length:=by omega
      have hrl:rest.length-1=K+g.length-1:=by omega
      generalize hc:co rest (K+g.length-1)*inv g=w at d2 d3
      have hml:=F7m (k:=K) hg h0 hg0 hv (by omega) hl d2 d3
      have hdiv:Ev (fun k=>A0L k (fr (co rest (rest.length-1))) (fr (co g (g.length-1)))) (fr w):=by
        have:=F1c (a:=co rest (rest.length-1)) (b:=co g (g.length-1)) ((d1 _).mono (by decide)) (hg.co _) (B4Z hg0 h0)
        rw [Rat.div_def,hrl]at this
        rw [hrl,←hc];exact this
      have e2:co (A6c rest (R4 (mono K w) g))=Y6 g (inv g) K (co rest):=by
        funext m
        rw [C3X,D8V]
        unfold Y6
        rw [hc]
        by_cases cm:K≤m∧m<K+g.length
        · rw [if_pos cm,if_pos (by omega)]
        · rw [if_neg cm,if_neg (by omega),Rat.sub_eq_add_neg,Rat.neg_zero,Rat.add_zero]
      have hz2:Y6 g (inv g) K (co rest) (K+g.length-1)=0:=by
        unfold Y6
        rw [if_pos (by omega),hc,show K+g.length-1-K=g.length-1 by omega,←hc]
        unfold inv
        rw [Rat.mul_assoc,Rat.inv_mul_cancel _ (B4Z hg0 h0),Rat.mul_one,Rat.sub_eq_add_neg,Rat.add_neg_cancel]
      have hlr:(A6c rest (R4 (mono K w) g)).length≤K+g.length-1:=F4l A0e fun j hj=>by
        rw [e2]
        rcases Nat.lt_or_ge (K+g.length-1) j with h1|h1
        · unfold Y6
          rw [if_neg (by omega),Z4 (by omega)]
        · rw [show j=K+g.length-1 by omega];exact hz2
      have hmu:(R4 (mono K w) g).length<1000000∧∀a,a∈R4 (mono K w) g→Sm 9000 a:=by
        refine⟨Nat.lt_of_le_of_lt (A6S _ _) (by have:=B0y K w;omega),fun a ha=>?_⟩
        obtain⟨j,hj,rfl⟩:=B5M (B0Q ha)
        rw [←C7H,D8V]
        split
        · exact d3 _
        · exact sm0
      have hrs:Sl rest:=⟨by omega,fun a ha=>by
        obtain⟨i,hi,rfl⟩:=List.getElem_of_mem ha
        have:=d1 i
        unfold co at this
        rw [List.getD_eq_getElem?_getD,List.getElem?_eq_getElem hi]at this
        exact Sm.mono this (by decide)⟩
      have hq':∀j,co (O7 q (mono K w)) j=co q j+if j=K then w else 0:=fun j=>by rw [D0T,B3e]
      have hms:Sl (mono K w):=⟨Nat.lt_of_le_of_lt (B0y _ _) (by omega),fun a ha=>by
        obtain⟨j,hj,rfl⟩:=B5M (B0Q ha)
        show Sm 10000 (if j=K then w else 0)
        split
        · exact d2.mono (by decide)
        · exact sm0.mono (by decide)⟩
      rw [←e2]at d4
      obtain⟨Q,h1,h2,h3⟩:=ih (A6c rest (R4 (mono K w) g)) (O7 q (mono K w)) A0e (by omega) (by omega)
        (by
          refine⟨Nat.lt_of_le_of_lt (A6S _ _) (by have:=hq.1;have:=B0y K w;omega),fun a ha=>?_⟩
          obtain⟨j,hj,rfl⟩:=B5M (B0Q ha)
          show Sm 10000 (co q j+co (mono K w) j)
          rw [B3e]
          split
          · rename_i ej;rw [ej,hz K (by omega),Rat.zero_add];exact d2.mono (by decide)
          · rw [Rat.add_zero];exact hq.co j)
        A0e (by omega) d4 (fun j hj=>by rw [hq',hz j (by omega),if_neg (by omega),Rat.add_zero])
      refine⟨Q,h1,fun j=>?_,?_⟩
      · rw [h2 j,hq',e2]
        show _=_+if j=K then co rest (K+g.length-1)*inv g else _
        rw [hc]
        split
        · rename_i ej;rw [ej,C0H (Nat.le_refl _),Rat.add_zero]
        · rw [Rat.add_zero]
      · refine Ev.step (f:=fun k=>t5 (k+1) (g.map fr) (q.map fr) (rest.map fr)) (fun k=>rfl) ?_
        show Ev (fun k=>A9T (t5 k) (I2 k) (A2H k) (Q9 k) (A2T k) (Z7 k) (A0L k) _ _ _) _
        unfold A9T
        have hw:wrap64 ((rest.length:Int)-(g.length:Int))=(K:Int):=by rw [I4 (by omega) (by omega)];omega
        rw [List.length_map,List.length_map,hw]
        rw [e2]at h3
        exact C1 (by omega) (Ev.bind (D5F (by omega) (by omega)) (Ev.bind (D5F (by omega) h0) (Ev.bind hdiv (Ev.bind (F1G (by omega)) (Ev.bind (B6F hq hms) (Ev.bind (C3Q hml) (Ev.bind (E6b hrs hmu) h3)))))))
theorem E6X {f:List Rat} (hl:g.length<400000) (hf:f.length<200000) (ht:Tr f) (hd:dOk g (inv g) (f.length+1-g.length) (co f)):
    Ev (fun k=>A4l k (f.map fr) (g.map fr)) ((A8O f g).map fr,(S8 f g).map fr):=by
  show Ev (fun k=>B4J (t5 k) (F7 k) _ _) _
  unfold B4J
  have h1:=B4j (g:=f) (by omega)
  rw [ht.trim]at h1
  obtain⟨Q,q1,q2,q3⟩:=E6O hg h0 hg0 hv hl (f.length+1-g.length) f [] ht (by omega) (by omega) Sl.nil (fun a h=>by cases h) (by omega) hd fun j _=>Z4 (Nat.zero_le _)
  have e:Q=A8O f g:=E7e q1 fun j=>by
    rw [q2 j,Z4 (show([]:List Rat).length≤j from Nat.zero_le _),Rat.zero_add]
    split
    · rfl
    · exact C0H (by omega)
  rw [e]at q3
  exact Ev.bind h1 q3
theorem F8O {f:List Rat} (hl:g.length<400000) (hf:f.length<200000) (ht:Tr f) (hd:dOk g (inv g) (f.length+1-g.length) (co f)):
    Ev (fun k=>A4e k (f.map fr) (g.map fr)) ((S8 f g).map fr):=by
  show Ev (fun k=>B3T (A4l k) _ _) _
  unfold B3T
  exact Ev.bind (E6X hg h0 hg0 hv hl hf ht hd) (Ev.now _)
theorem F4t {f:List Rat} (hl:g.length<400000) (hf:f.length<200000) (ht:Tr f) (hd:dOk g (inv g) (f.length+1-g.length) (co f)):
    Ev (fun k=>P2 k (g.map fr) (f.map fr)) ((S8 f g).map fr):=by
  show Ev (fun k=>B5o (A4e k) _ _) _
  unfold B5o
  exact Ev.bind (F8O hg h0 hg0 hv hl hf ht hd) (Ev.now _)
theorem E7z {f:List Rat} (hf:f.length<200000) (ht:Tr f) (hd:dOk g (inv g) (f.length+1-g.length) (co f)):
    Ev (fun k=>O1 k (g.map fr) (f.map fr)) ((S8 f g).map fr):=by
  show Ev (fun k=>B5C (X2 k) _ _) _
  unfold B5C
  exact Ev.bind (E5V (by omega) ht hg h0 hg0 (hv.mono (by decide)) hd) (Ev.now _)
end
def Cs (D s:Nat) (q:Rat):Prop:=∃n:Int,q=mkRat n D∧(ab n).size≤s
section
variable {D E s t u:Nat} {a b:Rat} {n:Nat}
theorem Cs.mono (h:Cs D s a) (hs:s≤t):Cs D t a:=by obtain⟨n,e,h⟩:=h;exact⟨n,e,Nat.le_trans h hs⟩
theorem Cs.zero : Cs D s 0 := ⟨0, (Rat.zero_mkRat D).symm, by have:(ab 0).size=0:=by decide +kernel
                                                              omega⟩
theorem Cs.neg (h:Cs D s a):Cs D s (-a):=by
  obtain⟨n,rfl,h⟩:=h
  exact⟨-n,Rat.neg_mkRat n D,by rw [D7h];exact h⟩
theorem Cs.add (hD:D≠0) (ha:Cs D s a) (hb:Cs D t b) (hs:s≤u) (ht:t≤u):Cs D (u+1) (a+b):=by
  obtain⟨n,rfl,h1⟩:=ha
  obtain⟨m,rfl,h2⟩:=hb
  refine⟨n+m,?_,B6H (Nat.le_trans h1 hs) (Nat.le_trans h2 ht)⟩
  rw [Rat.mkRat_add_mkRat n m hD hD,←Int.add_mul,Rat.mkRat_mul_right hD]
theorem Cs.sub (hD:D≠0) (ha:Cs D s a) (hb:Cs D t b) (hs:s≤u) (ht:t≤u):Cs D (u+1) (a-b):=by
  rw [Rat.sub_eq_add_neg];exact ha.add hD hb.neg hs ht
theorem Cs.mul (ha:Cs D s a) (hb:Cs E t b):Cs (D*E) (s+t) (a*b):=by
  obtain⟨n,rfl,h1⟩:=ha
  obtain⟨m,rfl,h2⟩:=hb
  exact⟨n*m,Rat.mkRat_mul_mkRat n m D E,A1f h1 h2⟩
theorem Cs.sm (hD:D≠0) (h:Cs D s a) (hs:s≤t) (hd:(B2 D).size≤t):Sm t a:=by
  obtain⟨n,rfl,h1⟩:=h
  exact Sm.mk_ (Nat.le_trans h1 hs) hd hD
theorem Cs.int (h1:a.den=1) (h2:(ab a.num).size≤s):Cs 1 s a:=⟨a.num,by rw [←h1];exact(Rat.mkRat_self a).symm,h2⟩
theorem X9 (hD:D≠0) (hE:E≠0):D*E≠0:=Nat.mul_ne_zero hD hE
theorem C1e:∀{l:List Rat},(∀a,a∈l→Sm 8 a)→∃D,D≠0∧(B2 D).size≤8*l.length+1∧∀a,a∈l→Cs D (8*l.length+9) a
  | [],_=>⟨1,by decide,by decide +kernel,fun a h=>by cases h⟩
  | a::l,h=>by
    obtain⟨D,d1,d2,d3⟩:=C1e (l:=l) fun b hb=>h b (List.mem_cons_of_mem _ hb)
    obtain⟨a1,a2⟩:=h a List.mem_cons_self
    rw [List.length_cons]
    refine⟨a.den*D,X9 a.den_nz d1,Nat.le_trans (Y5 a2 d2) (by omega),fun b hb=>?_⟩
    rcases List.mem_cons.1 hb with rfl|hb
    · refine⟨b.num*(D:Int),?_,Nat.le_trans (A1f a1 (n:=8*l.length+1) (by rw [Z1];exact d2)) (by omega)⟩
      rw [Rat.mkRat_mul_right d1,Rat.mkRat_self]
    · obtain⟨n,rfl,h1⟩:=d3 b hb
      refine⟨(a.den:Int)*n,(Rat.mkRat_mul_left a.den_nz).symm,Nat.le_trans (A1f (m:=8) (by rw [Z1];exact a2) h1) (by omega)⟩
end
structure Pz (D s B:Nat) (a:List Rat):Prop where
  len:a.length≤B
  tr:Tr a
  cs:∀m,Cs D s (co a m)
section
variable {D E s t u B C:Nat} {a b:List Rat}
theorem Pz.mono (h:Pz D s B a) (hs:s≤t) (hB:B≤C):Pz D t C a:=⟨Nat.le_trans h.len hB,h.tr,fun m=>(h.cs m).mono hs⟩
theorem Pz.nil:Pz D s B []:=⟨Nat.zero_le _,(fun a h=>by cases h),fun m=>by rw [Z4 (Nat.zero_le _)];exact Cs.zero⟩
theorem Pz.of (h1:a.length≤B) (h2:Tr a) (h3:∀x,x∈a→Cs D s x):Pz D s B a:=⟨h1,h2,fun m=>by
  rcases Nat.lt_or_ge m a.length with h|h
  · exact h3 _ (D2t h)
  · rw [Z4 h];exact Cs.zero⟩
theorem F8G {x:Rat} (h:x∈a):∃i,i<a.length∧x=co a i:=by
  obtain⟨i,hi,rfl⟩:=List.getElem_of_mem h
  refine⟨i,hi,?_⟩
  unfold co
  rw [List.getD_eq_getElem?_getD,List.getElem?_eq_getElem hi];rfl
theorem Pz.mem (h:Pz D s B a) {x:Rat} (hx:x∈a):Cs D s x:=by
  obtain⟨i,_,rfl⟩:=F8G hx
  exact h.cs i
theorem Pz.add (hD:D≠0) (ha:Pz D s B a) (hb:Pz D t C b) (hs:s≤u) (ht:t≤u):Pz D (u+1) (max B C) (O7 a b):=
  ⟨Nat.le_trans (A6S _ _) (by have:=ha.len;have:=hb.len;omega),A0e,fun m=>by rw [D0T];exact(ha.cs m).add hD (hb.cs m) hs ht⟩
theorem Pz.sub (hD:D≠0) (ha:Pz D s B a) (hb:Pz D t C b) (hs:s≤u) (ht:t≤u):Pz D (u+1) (max B C) (A6c a b):=
  ⟨Nat.le_trans (A6S _ _) (by have:=ha.len;have:=hb.len;omega),A0e,fun m=>by rw [C3X];exact(ha.cs m).sub hD (hb.cs m) hs ht⟩
theorem B8o (hD:D≠0) (hE:E≠0) (ha:Pz D s B a) (hb:Pz E t C b) (m:Nat):∀i,Cs (D*E) (s+t+i) (K2 a b m i)
  |0=>Cs.zero
  | i+1=>by
    show Cs _ _ (if _ then _ else _)
    split
    · exact(B8o hD hE ha hb m i).add (u:=s+t+i) (X9 hD hE) ((ha.cs i).mul (hb.cs _)) (Nat.le_refl _) (by omega)
    · exact(B8o hD hE ha hb m i).mono (by omega)
theorem Pz.mul (hD:D≠0) (hE:E≠0) (ha:Pz D s B a) (hb:Pz E t C b):Pz (D*E) (s+t+B) (B+C) (R4 a b):=
  ⟨Nat.le_trans (A6S _ _) (by have:=ha.len;have:=hb.len;omega),A0e,fun m=>by rw [C7H];exact(B8o hD hE ha hb m _).mono (by have:=ha.len;omega)⟩
theorem Pz.sl (hD:D≠0) (ha:Pz D s B a) (h1:(B2 D).size≤9000) (h2:s≤9000) (h3:B<400000):a.length<400000∧∀x,x∈a→Sm 9000 x:=
  ⟨Nat.lt_of_le_of_lt ha.len h3,fun x hx=>(ha.mem hx).sm hD h2 h1⟩
theorem Pz.Sl (hD:D≠0) (ha:Pz D s B a) (h1:(B2 D).size≤9000) (h2:s≤9000) (h3:B<400000):Sl a:=
  ⟨by have:=(ha.sl hD h1 h2 h3).1;omega,fun x hx=>((ha.sl hD h1 h2 h3).2 x hx).mono (by decide)⟩
theorem Pz.ml (hD:D≠0) (hE:E≠0) (ha:Pz D s B a) (hb:Pz E t C b) (h1:(B2 D).size+(B2 E).size≤9000) (h2:s+t+B≤9000) (h3:B<400000) (h4:C<400000):Ml a b:=by
  have hd:(B2 (D*E)).size≤9000:=Nat.le_trans (Y5 (Nat.le_refl _) (Nat.le_refl _)) h1
  exact⟨by have:=ha.len;omega,by have:=hb.len;omega,fun m i hi=>(B8o hD hE ha hb m i).sm (X9 hD hE) (by have:=ha.len;omega) (by omega),
    fun i=>(ha.cs i).sm hD (by omega) (by omega),fun i=>(hb.cs i).sm hE (by omega) (by omega),fun i j=>((ha.cs i).mul (hb.cs j)).sm (X9 hD hE) (by omega) (by omega)⟩
end
structure Mk (M:List Rat):Prop where
  pz:Pz 1 8 30 M
  pos:0<M.length
  one:inv M=1
section
variable {D s B:Nat} {M a:List Rat} (hM:Mk M)
include hM
theorem D2X (hD:D≠0) {k:Nat} {r:Nat→Rat} (hr:∀m,Cs D s (r m)) (m:Nat):Cs D (s+9) (Y6 M (inv M) k r m):=by
  unfold Y6
  rw [hM.one]
  split
  · have h1:=(hr (k+M.length-1)).mul (hM.pz.cs (m-k))
    rw [Nat.mul_one]at h1
    rw [Rat.mul_one]
    exact(hr m).sub hD h1 (u:=s+8) (by omega) (Nat.le_refl _)
  · exact(hr m).mono (by omega)
theorem D1e (hD:D≠0):∀{K s:Nat} {r:Nat→Rat},(∀m,Cs D s (r m))→∀m,Cs D (s+9*K) (dv M (inv M) K r m)
  |0,s,r,h,m=>h m
  |K+1,s,r,h,m=>(D1e hD (K:=K) (D2X hM hD (k:=K) h) m).mono (by omega)
theorem C8t (hD:D≠0) (hd:(B2 D).size≤9000):∀{K s:Nat} {r:Nat→Rat},(∀m,Cs D s (r m))→s+9*K≤8900→dOk M (inv M) K r
  |0,s,r,h,hs=>fun m=>(h m).sm hD (by omega) hd
  | K+1,s,r,h,hs=>by
    refine⟨fun m=>(h m).sm hD (by omega) hd,?_,fun m=>?_,C8t hD hd (D2X hM hD (k:=K) h) (by omega)⟩
    · rw [hM.one,Rat.mul_one];exact(h _).sm hD (by omega) hd
    · have h1:=(h (K+M.length-1)).mul (hM.pz.cs m)
      rw [Nat.mul_one]at h1
      rw [hM.one,Rat.mul_one]
      exact h1.sm hD (by omega) hd
theorem Pz.rem (hD:D≠0) (ha:Pz D s B a):Pz D (s+9*B) (M.length-1) (S8 a M):=
  ⟨A6S _ _,A0e,fun m=>by
    unfold S8 A4t
    rw [A5N]
    split
    · exact(D1e hM hD ha.cs m).mono (by have:=ha.len;have:=hM.pos;omega)
    · exact Cs.zero⟩
theorem Mk.sl:Sl M:=hM.pz.Sl (by decide) (by decide +kernel) (by decide) (by decide)
theorem Mk.inv:Sm 9000 (inv M):=by rw [hM.one];exact⟨by decide +kernel,by decide +kernel⟩
theorem D3M (hD:D≠0) (ha:Pz D s B a) (hd:(B2 D).size≤9000) (hB:B<200000) (hs:s+9*B≤8900):Ev (fun k=>O1 k (M.map fr) (a.map fr)) ((S8 a M).map fr):=by
  have:=ha.len;have:=hM.pos
  exact E7z hM.sl hM.pos hM.pz.tr hM.inv (by omega) ha.tr (C8t hM hD hd ha.cs (by omega))
theorem C1W (hD:D≠0) (ha:Pz D s B a) (hd:(B2 D).size≤9000) (hB:B<200000) (hs:s+9*B≤8900):Ev (fun k=>P2 k (M.map fr) (a.map fr)) ((S8 a M).map fr):=by
  have:=ha.len;have:=hM.pos;have:=hM.pz.len
  exact F4t hM.sl hM.pos hM.pz.tr hM.inv (by omega) (by omega) ha.tr (C8t hM hD hd ha.cs (by omega))
end
abbrev PQ:=List (List Rat)
abbrev fm (F:PQ):List FP:=F.map (List.map fr)
def C6 (F:PQ) (i:Nat):List Rat:=F.getD i []
def plF (n:Nat) (c:Nat→List Rat):PQ:=I6 List.isEmpty (tb n c)
theorem A9D {F:PQ} {j:Nat} (h:F.length≤j):C6 F j=[]:=by unfold C6;rw [List.getD_eq_getElem?_getD,List.getElem?_eq_none h];rfl
theorem E5F {F:PQ} {j:Nat} (h:j<F.length):C6 F j∈F:=by unfold C6;rw [List.getD_eq_getElem?_getD,List.getElem?_eq_getElem h];exact List.getElem_mem h
theorem A1n {F:PQ} {i:Nat} (h:i<F.length):C4 ([]:FP) (fm F) (i:Int)=(C6 F i).map fr:=by
  unfold C4 C6
  rw [Int.toNat_natCast,List.getD_eq_getElem?_getD,List.getElem?_map,List.getD_eq_getElem?_getD,List.getElem?_eq_getElem h];rfl
theorem J8 (F:PQ):(fm F).length=F.length:=List.length_map ..
theorem C0L (n:Nat) (c:Nat→List Rat):(plF n c).length≤n:=by have:=B4F List.isEmpty (tb n c);rwa [H6]at this
theorem B3G {l:PQ}:I6 List.isEmpty (fm l)=fm (I6 List.isEmpty l):=by
  rw [C4M]
  congr 2
  funext x
  cases x<;>rfl
theorem D0Z {n:Nat} {c:Nat→List Rat} (hn:n<1000000):Ev (fun k=>E8 k (tb n fun i=>(c i).map fr)) (fm (plF n c)):=by
  have h:=C5M (f:=fm (tb n c)) (by rw [J8,H6];omega)
  rw [B3G]at h
  rw [←A7h (List.map fr)]
  exact h
theorem D1X {n:Nat} {c:Nat→List Rat} (hn:n<1000000):Ev (fun k=>J1 k (tb n fun i=>(c i).map fr)) (fm (plF n c)):=by
  have h:=C4I (f:=fm (tb n c)) (by rw [J8,H6];omega)
  rw [B3G]at h
  rw [←A7h (List.map fr)]
  exact h
theorem D7B {F:PQ} {i:Nat} (hi:i<1099511627776):Ev (fun k=>A3Q k (fm F) (i:Int)) ((C6 F i).map fr):=by
  show Ev (fun k=>B5I _ _) _
  unfold B5I
  rw [J8]
  rcases Nat.lt_or_ge i F.length with h|h
  · rw [A1n h];exact C1 (by omega) (L7 (by omega) (by omega) (Ev.now _))
  · rw [A9D h];exact C7 (by omega) (Ev.now _)
theorem D6i {F:PQ} {i:Nat} (hi:i<1099511627776):Ev (fun k=>A2Q k (fm F) (i:Int)) ((C6 F i).map fr):=by
  show Ev (fun k=>B5r _ _) _
  unfold B5r
  rw [J8]
  rcases Nat.lt_or_ge i F.length with h|h
  · rw [A1n h];exact C1 (by omega) (L7 (by omega) (by omega) (Ev.now _))
  · rw [A9D h];exact C7 (by omega) (Ev.now _)
def w8 (F G:PQ):PQ:=plF (max F.length G.length) fun i=>O7 (C6 F i) (C6 G i)
theorem D4O {n i:Nat} {c:Nat→FP} {a:FP} {d:FP} (hi:i<n) (h:c i=a):(tb n fun j=>if j<i then c j else d).set (i:Int).toNat a=tb n fun j=>if j<i+1 then c j else d:=
  A4w hi fun j hj=>by
    by_cases e:j=i
    · rw [if_pos e,if_pos (by omega),e,h]
    · rw [if_neg e]
      by_cases e2:j<i
      · rw [if_pos e2,if_pos (by omega)]
      · rw [if_neg e2,if_neg (by omega)]
section
variable {F G:PQ} (lF:F.length<400000) (lG:G.length<400000) (hF:∀i,(C6 F i).length<400000∧∀x,x∈C6 F i→Sm 9000 x) (hG:∀i,(C6 G i).length<400000∧∀x,x∈C6 G i→Sm 9000 x)
include lF lG hF hG
theorem slF (i:Nat):Sl (C6 F i)∧Sl (C6 G i):=⟨⟨by have:=(hF i).1;omega,fun x hx=>((hF i).2 x hx).mono (by decide)⟩,⟨by have:=(hG i).1;omega,fun x hx=>((hG i).2 x hx).mono (by decide)⟩⟩
theorem E6E:Ev (fun k=>A2B k (fm F) (fm G)) (fm (w8 F G)):=by
  show Ev (fun k=>B4O (A0u k) _ _) _
  unfold B4O
  rw [J8,J8,B2m]
  refine C1 (by omega) (C1 (Int.le_refl _) (C1 (by rw [Int.toNat_natCast];omega) ?_))
  rw [Int.toNat_natCast,List.length_replicate,B1G]
  refine X5 (n:=max F.length G.length) (by omega) (fun k i (s:List FP)=>A0u k (fm F) (fm G) ((max F.length G.length:Nat):Int) i s)
    (fun i=>tb (max F.length G.length) fun j=>if j<i then(O7 (C6 F j) (C6 G j)).map fr else []) ?_ fun i hi ih=>?_
  · show Ev (fun k=>A7S (A0u k) (J6 k) (E8 k) (A3Q k) _ _ _ _ _) _
    unfold A7S
    rw [q7 (h':=fun j=>(O7 (C6 F j) (C6 G j)).map fr) fun j hj=>if_pos hj]
    exact C7 (by omega) (Ev.bind (D0Z (by omega)) (Ev.now _))
  · show Ev (fun k=>A7S (A0u k) (J6 k) (E8 k) (A3Q k) _ _ _ _ _) _
    unfold A7S
    obtain⟨h1,h2⟩:=slF lF lG hF hG i
    rw [wi (by omega),H6]
    refine C1 (by omega) (Ev.bind (D7B (by omega)) (Ev.bind (D7B (by omega)) (Ev.bind (C2b h1 h2) (L7 (by omega) (by omega) ?_))))
    rw [D4O (c:=fun j=>(O7 (C6 F j) (C6 G j)).map fr) hi rfl]
    exact ih
theorem F1f:Ev (fun k=>A1Z k (fm F) (fm G)) (fm (w8 F G)):=by
  show Ev (fun k=>B23 (A1Y k) _ _) _
  unfold B23
  refine X5 (n:=max F.length G.length) (by omega) (fun k i (s:List FP)=>A1Y k (fm F) (fm G) i s) (fun i=>tb i fun j=>(O7 (C6 F j) (C6 G j)).map fr) ?_ fun i hi ih=>?_
  · show Ev (fun k=>A7f (A1Y k) (I2 k) (A2Q k) (J1 k) _ _ _ _) _
    unfold A7f
    rw [J8,J8,B2m]
    exact C7 (by omega) (Ev.bind (D1X (by omega)) (Ev.now _))
  · show Ev (fun k=>A7f (A1Y k) (I2 k) (A2Q k) (J1 k) _ _ _ _) _
    unfold A7f
    obtain⟨h1,h2⟩:=slF lF lG hF hG i
    rw [J8,J8,B2m,wi (by omega),H6]
    refine C1 (by omega) (Ev.bind (D6i (by omega)) (Ev.bind (D6i (by omega)) (Ev.bind (B6F h1 h2) (C1 (by omega) ?_))))
    rw [A6K (h:=fun j=>(O7 (C6 F j) (C6 G j)).map fr)]
    exact ih
end
def L2 (F G:PQ) (m:Nat):Nat→List Rat
  |0=>[]
  |i+1=>if i≤m∧m-i<G.length then O7 (L2 F G m i) (R4 (C6 F i) (C6 G (m-i)))else L2 F G m i
def O5 (M:List Rat) (F G:PQ):PQ:=plF (F.length+G.length-1) fun m=>S8 (L2 F G m F.length) M
theorem D3E (F:PQ) (m:Nat):∀i,L2 F [] m i=[]
  |0=>rfl
  |i+1=>by unfold L2;rw [if_neg (fun h=>Nat.not_lt_zero _ h.2)];exact D3E F m i
theorem D9K {n:Nat} {c:Nat→List Rat} (h:∀j,j<n→c j=[]):plF n c=[]:=by
  unfold plF
  rw [q7 h]
  induction n with
  |zero=>rfl
  |succ n ih=>rw [←A6K,B2Q];exact(if_pos rfl).trans (ih fun j hj=>h j (by omega))
section
variable {D E s t B C:Nat} {M:List Rat} {F G:PQ} (hM:Mk M)
include hM
theorem D6u:S8 [] M=[]:=C9Q (fun a h=>by cases h) hM.pos
theorem F8P (G:PQ):O5 M [] G=[]:=D9K fun j _=>D6u hM
theorem E9D (F:PQ):O5 M F []=[]:=D9K fun j _=>by rw [D3E];exact D6u hM
variable (hD:D≠0) (hE:E≠0) (hF:∀i,Pz D s B (C6 F i)) (hG:∀i,Pz E t C (C6 G i)) (lF:F.length<100000) (lG:G.length<100000)
  (b1:(B2 D).size+(B2 E).size≤9000) (b2:s+t+B+F.length+9*(B+C)≤8000) (b3:B+C<100000)
include hD hE hF hG
theorem A7m (m:Nat):∀i,Pz (D*E) (s+t+B+i) (B+C) (L2 F G m i)
  |0=>Pz.nil
  | i+1=>by
    show Pz _ _ _ (if _ then _ else _)
    split
    · have:=(A7m m i).add (u:=s+t+B+i) (X9 hD hE) ((hF i).mul hD hE (hG (m-i))) (Nat.le_refl _) (by omega)
      rw [Nat.max_self]at this
      exact this
    · exact(A7m m i).mono (by omega) (Nat.le_refl _)
include lF lG b1 b2 b3
theorem C0U:(B2 (D*E)).size≤9000:=Nat.le_trans (Y5 (Nat.le_refl _) (Nat.le_refl _)) b1
theorem D3e (m:Nat) {i:Nat} (hi:i≤F.length):Sl (L2 F G m i):=(A7m hM hD hE hF hG m i).Sl (X9 hD hE) (C0U hM hD hE hF hG lF lG b1 b2 b3) (by omega) (by omega)
theorem D6N (i j:Nat):Sl (R4 (C6 F i) (C6 G j)):=((hF i).mul hD hE (hG j)).Sl (X9 hD hE) (C0U hM hD hE hF hG lF lG b1 b2 b3) (by omega) (by omega)
theorem D2a (i j:Nat):Ml (C6 F i) (C6 G j):=(hF i).ml hD hE (hG j) b1 (by omega) (by omega) (by omega)
theorem E3J:Ev (fun k=>A1c k (M.map fr) (fm F) (fm G)) (fm (O5 M F G)):=by
  show Ev (fun k=>B5F (u9 k) _ _ _) _
  unfold B5F
  rw [J8,J8]
  rcases Nat.eq_zero_or_pos F.length with e|e
  · rw [List.length_eq_zero_iff.1 e,F8P hM];exact C1 rfl (Ev.now _)
  refine C7 (by omega) ?_
  rcases Nat.eq_zero_or_pos G.length with e'|e'
  · rw [List.length_eq_zero_iff.1 e',E9D hM];exact C1 rfl (Ev.now _)
  refine C7 (by omega) ?_
  have hN:wrap64 (wrap64 ((F.length:Int)+(G.length:Int))-1)=((F.length+G.length-1:Nat):Int):=by rw [I4 (x:=(F.length:Int)+_) (by omega) (by omega),I4 (by omega) (by omega)];omega
  rw [hN]
  clear hN
  refine C1 (by omega) (C1 (Int.le_refl _) (C1 (by rw [Int.toNat_natCast];omega) ?_))
  rw [Int.toNat_natCast,B1G]
  generalize hn:F.length+G.length-1=N
  have fin:Ev (fun k=>j3 k (N:Int) 0 (M.map fr) (tb N fun m=>(L2 F G m F.length).map fr)) (fm (O5 M F G)):=by
    refine X5 (n:=N) (by omega) (fun k i (s:List FP)=>j3 k (N:Int) i (M.map fr) s) (fun i=>tb N fun m=>if m<i then(S8 (L2 F G m F.length) M).map fr else(L2 F G m F.length).map fr) ?_ fun i hi ih=>?_
    · show Ev (fun k=>A7P (j3 k) (E8 k) (O1 k) _ _ _ _) _
      unfold A7P
      rw [q7 (h':=fun m=>(S8 (L2 F G m F.length) M).map fr) fun m hm=>if_pos hm]
      unfold O5
      rw [hn]
      exact C7 (by omega) (Ev.bind (D0Z (by omega)) (Ev.now _))
    · show Ev (fun k=>A7P (j3 k) (E8 k) (O1 k) _ _ _ _) _
      unfold A7P
      rw [wi (by omega),H6,B3q hi,if_neg (by omega)]
      refine N5 (by omega) (by omega) (by omega) (Ev.bind (D3M hM (X9 hD hE) (A7m hM hD hE hF hG i F.length) (C0U hM hD hE hF hG lF lG b1 b2 b3) (by omega) (by omega)) (L7 (by omega) (by omega) ?_))
      rw [A4w (h':=fun m=>if m<i+1 then(S8 (L2 F G m F.length) M).map fr else(L2 F G m F.length).map fr) hi fun m hm=>?_]
      · exact ih
      · by_cases e:m=i
        · subst e;rw [if_pos (by omega),if_pos rfl]
        · rw [if_neg e];by_cases e2:m<i
          · rw [if_pos e2,if_pos (by omega)]
          · rw [if_neg e2,if_neg (by omega)]
  refine X5 (n:=F.length) (by omega) (fun k i (s:List FP)=>u9 k (fm G) (fm F) (F.length:Int) i (M.map fr) s) (fun i=>tb N fun m=>(L2 F G m i).map fr) ?_ fun i hi ih=>?_
  · show Ev (fun k=>A7X (k9 k) (j3 k) _ _ _ _ _ _) _
    unfold A7X
    rw [H6]
    exact C7 (by omega) fin
  · show Ev (fun k=>A7X (k9 k) (j3 k) _ _ _ _ _ _) _
    unfold A7X
    rw [A1n hi,J8,J8]
    refine N5 (by omega) (by omega) (by omega) ?_
    have:=X5 (n:=G.length) (by omega) (fun k j (s:List FP)=>k9 k (fm G) (i:Int) ((C6 F i).map fr) (fm F) (F.length:Int) (i:Int) (fm G) (G.length:Int) j (M.map fr) s)
      (fun j=>tb N fun m=>(if i≤m∧m<i+j then O7 (L2 F G m i) (R4 (C6 F i) (C6 G (m-i)))else L2 F G m i).map fr) (r:=fm (O5 M F G)) ?_ fun j hj jh=>?_
    · rw [q7 (h':=fun m=>(L2 F G m i).map fr) fun m _=>by rw [if_neg (by omega)]]at this
      exact this
    · show Ev (fun k=>A8l (u9 k) (k9 k) (J6 k) (L5 k) _ _ _ _ _ _ _ _ _ _ _) _
      unfold A8l
      rw [wi (i:=i) (by omega),q7 (h':=fun m=>(L2 F G m (i+1)).map fr) fun m _=>?_]
      · exact C7 (by omega) ih
      · show List.map fr (if _ then _ else _)=List.map fr (if _ then _ else _)
        by_cases c:i≤m∧m<i+G.length
        · rw [if_pos c,if_pos (by omega)]
        · rw [if_neg c,if_neg (by omega)]
    · show Ev (fun k=>A8l (u9 k) (k9 k) (J6 k) (L5 k) _ _ _ _ _ _ _ _ _ _ _) _
      unfold A8l
      have hlt:i+j<N:=by omega
      have hij:wrap64 ((i:Int)+(j:Int))=((i+j:Nat):Int):=by rw [I4 (by omega) (by omega)];omega
      rw [hij,wi (i:=j) (by omega),H6,A1n hj,B3q (d:=([]:FP)) (h:=fun m=>(if i≤m∧m<i+j then O7 (L2 F G m i) (R4 (C6 F i) (C6 G (m-i)))else L2 F G m i).map fr) hlt,if_neg (show¬(i≤i+j∧i+j<i+j)from fun h=>Nat.lt_irrefl _ h.2)]
      clear hij
      refine N5 (by omega) (by omega) (by rw [J8];omega) (L7 (by omega) (by omega) (Ev.bind (D4x (D2a hM hD hE hF hG lF lG b1 b2 b3 i j)) (Ev.bind (C2b (D3e hM hD hE hF hG lF lG b1 b2 b3 _ (by omega)) (D6N hM hD hE hF hG lF lG b1 b2 b3 i j)) (L7 (by omega) (by omega) ?_))))
      rw [A4w (h':=fun m=>(if i≤m∧m<i+(j+1)then O7 (L2 F G m i) (R4 (C6 F i) (C6 G (m-i)))else L2 F G m i).map fr) (by omega) fun m hm=>?_]
      · exact jh
      · by_cases c:m=i+j
        · subst c;rw [if_pos rfl,if_pos (by omega),show i+j-i=j by omega]
        · rw [if_neg c]
          by_cases c2:i≤m∧m<i+j
          · rw [if_pos c2,if_pos (by omega)]
          · rw [if_neg c2,if_neg (by omega)]
theorem F3d:Ev (fun k=>A1a k (M.map fr) (fm F) (fm G)) (fm (O5 M F G)):=by
  show Ev (fun k=>B30 (A0I k) _ _ _) _
  unfold B30
  have hN:wrap64 (wrap64 ((F.length:Int)+(G.length:Int))-1)=(F.length:Int)+(G.length:Int)-1:=by rw [I4 (x:=(F.length:Int)+_) (by omega) (by omega),I4 (by omega) (by omega)]
  refine X5 (n:=F.length+G.length-1) (by omega) (fun k i (s:List FP)=>A0I k (fm F) (fm G) i (M.map fr) s) (fun i=>tb i fun m=>(S8 (L2 F G m F.length) M).map fr) ?_ fun m hm ih=>?_
  · show Ev (fun k=>A9Y (t4 k) (J1 k) _ _ _ _ _) _
    unfold A9Y
    rw [J8,J8,hN]
    exact C7 (by omega) (Ev.bind (D1X (by omega)) (Ev.now _))
  · show Ev (fun k=>A9Y (t4 k) (J1 k) _ _ _ _ _) _
    unfold A9Y
    rw [J8,J8,hN]
    refine C1 (by omega) ?_
    refine X5 (n:=F.length) (by omega) (fun k i (s:FP)=>t4 k (fm F) (fm G) (m:Int) s (F.length:Int) i (M.map fr) (tb m fun m=>(S8 (L2 F G m F.length) M).map fr)) (fun i=>(L2 F G m i).map fr) ?_ fun i hi jh=>?_
    · show Ev (fun k=>A8i (A0I k) (t4 k) (I2 k) (Q9 k) (P2 k) _ _ _ _ _ _ _ _) _
      unfold A8i
      rw [H6,wi (i:=m) (by omega)]
      refine C7 (by omega) (Ev.bind (C1W hM (X9 hD hE) (A7m hM hD hE hF hG m F.length) (C0U hM hD hE hF hG lF lG b1 b2 b3) (by omega) (by omega)) (C1 (by omega) ?_))
      rw [A6K (h:=fun m=>(S8 (L2 F G m F.length) M).map fr)]
      exact ih
    · show Ev (fun k=>A8i (A0I k) (t4 k) (I2 k) (Q9 k) (P2 k) _ _ _ _ _ _ _ _) _
      unfold A8i
      have hw:wrap64 ((m:Int)-(i:Int))=(m:Int)-(i:Int):=I4 (by omega) (by omega)
      rw [J8,J8,hw,wi (i:=i) (by omega)]
      refine C1 (by omega) ?_
      by_cases c:i≤m∧m-i<G.length
      · have e:(m:Int)-(i:Int)=((m-i:Nat):Int):=by omega
        rw [e,A1n hi,A1n c.2]
        refine C1 (by omega) (C1 (by omega) (L7 (by omega) (by omega) (L7 (by omega) (by omega) (Ev.bind (C3Q (D2a hM hD hE hF hG lF lG b1 b2 b3 i _)) (Ev.bind (B6F (D3e hM hD hE hF hG lF lG b1 b2 b3 _ (by omega)) (D6N hM hD hE hF hG lF lG b1 b2 b3 i _)) ?_)))))
        have e2:L2 F G m (i+1)=O7 (L2 F G m i) (R4 (C6 F i) (C6 G (m-i))):=if_pos c
        rw [e2]at jh
        exact jh
      · have e2:L2 F G m (i+1)=L2 F G m i:=if_neg c
        rw [e2]at jh
        by_cases c1:i≤m
        · exact C1 (by omega) (C7 (by omega) jh)
        · exact C7 (by omega) jh
end
theorem C7Y {a b:ByteArray} (h:E6 a b=true):a=b:=by
  rw [F1]at h
  exact D3d.1 (eq_of_beq h)
theorem F1Y {a:Rat} (h:A9w (fr a)=true):a=1:=by
  unfold A9w at h
  rw [Bool.and_eq_true,Bool.and_eq_true]at h
  obtain⟨⟨h1,h2⟩,h3⟩:=h
  exact F0J (b:=((1:Int):Rat)) (Prod.ext (Prod.ext (eq_of_beq h1) (C7Y h2)) (C7Y h3))
theorem F4w {a:Rat} (h:wh (fr a)=true):a.den=1:=by
  have h1:B2 a.den=⟨#[1]⟩:=C7Y h
  rw [←B1Q]at h1
  exact B2N.1 h1
theorem D7c {m:FP} (h:A4d m 4=true):∃M,m=M.map fr∧Mk M∧M.length≤5∧2≤M.length:=by
  unfold A4d at h
  split at h
  · cases h
  · rename_i c
    split at h
    · cases h
    · rename_i c2
      have hf:=Decidable.not_not.1 c2
      obtain⟨p1,p2,p3⟩:=B6X hf
      obtain⟨M,rfl,h1,h2,h3⟩:=D6R p1
      rw [List.length_map]at c p2
      have hall:=List.all_eq_true.1 h
      unfold form at hf
      rw [if_neg (fun x=>x p1),List.length_map,if_neg (by omega)]at hf
      split at hf
      · cases hf
      · rename_i l1
        split at hf
        · cases hf
        · rename_i l2
          have e1:B0k (M.map fr)=true:=by cases hx:B0k (M.map fr)with|true=>rfl|false=>rw [hx]at l1;exact absurd rfl l1
          have e2:(M.map fr).all wh=true:=by cases hx:(M.map fr).all wh with|true=>rfl|false=>rw [hx]at l2;exact absurd rfl l2
          have hwh:=List.all_eq_true.1 e2
          have hinv:inv M=1:=by
            have hl:M.getLast?=some (co M (M.length-1)):=by
              unfold co
              rw [List.getD_eq_getElem?_getD,List.getLast?_eq_getElem?,List.getElem?_eq_getElem (by omega)];rfl
            unfold B0k at e1
            rw [List.getLast?_map,hl]at e1
            unfold inv
            rw [F1Y e1];decide +kernel
          refine⟨M,rfl,⟨Pz.of (by omega) h3 fun x hx=>Cs.int (F4w (hwh _ (List.mem_map_of_mem hx))) ?_,by omega,hinv⟩,by omega,p2⟩
          have h4:=hall _ (List.mem_map_of_mem (f:=fr) hx)
          unfold sm4 at h4
          split at h4
          · cases h4
          · rename_i h5
            have:(ab x.num).size≤4:=Nat.not_lt.1 h5
            omega
def Few (F:PQ):Prop:=F.length≤5∧∀a,a∈F→(∀q,q∈a→Sm 8 q)∧Tr a∧a.length≤4
theorem D1b:∀{F:PQ},(∀a,a∈F→a.length≤4)→F.flatten.length≤4*F.length
  | [],_=>Nat.le_refl _
  | a::F,h=>by
    rw [List.flatten_cons,List.length_append,List.length_cons]
    have:=D1b (F:=F) fun b hb=>h b (List.mem_cons_of_mem _ hb)
    have:=h a List.mem_cons_self
    omega
theorem E3H {F:PQ} {D s:Nat} (h:Few F) (hc:∀a,a∈F→∀q,q∈a→Cs D s q) (i:Nat):Pz D s 4 (C6 F i):=by
  rcases Nat.lt_or_ge i F.length with h1|h1
  · have hm:=E5F h1
    exact Pz.of (h.2 _ hm).2.2 (h.2 _ hm).2.1 (hc _ hm)
  · rw [A9D h1];exact Pz.nil
theorem E4i {n D s B:Nat} {c:Nat→List Rat} (hn:n≤65) (hD:D≠0) (hd:(B2 D).size≤1024) (hs:s≤1024) (hB:B<400000) (h:∀i,Pz D s B (c i)):A3L (fm (plF n c)):=by
  refine⟨by rw [J8];exact Nat.le_trans (C0L n c) hn,fun a ha=>?_⟩
  obtain⟨b,hb,rfl⟩:=List.mem_map.1 ha
  obtain⟨j,_,rfl⟩:=B5M (B0Q hb)
  refine⟨by rw [List.length_map];have:=(h j).len;omega,fun x hx=>?_⟩
  obtain⟨q,hq,rfl⟩:=List.mem_map.1 hx
  exact⟨q,rfl,((h j).mem hq).sm hD hs hd⟩
theorem A3L.same {w:List FP} (h:A3L w):Ev (fun k=>V2 k w w) true:=F5I (by have:=h.1;omega) fun a ha=>(h.2 a ha).1
theorem D6k {α:Type} {a b:Nat→Option Bool} {w:List α} {e:Int} (h:e≠0) (hw:w=[]):Ev (fun k=>if e≠0 then(if e=e then(some (decide ((w.length:Int)=0)))else a k)else b k) true:=by
  subst hw;exact C1 h (C1 rfl (Ev.now _))
theorem F7X {m:FP} {l:List (List FP)} (hm:form m=0) (h:C0D m l=false):A4d m 4=true∧∀f,f∈l→U3 m f=0→∃F:PQ,f=fm F∧Few F:=by
  unfold C0D at h
  rw [if_neg (fun x=>x hm)]at h
  split at h
  · cases h
  · rename_i hb
    have hk:A4d m 4=true:=by cases hx:A4d m 4 with|true=>rfl|false=>rw [hx]at h;cases h
    refine⟨hk,fun f hf hc=>?_⟩
    have hbf:bad m f=false:=by
      cases hx:bad m f with
      |false=>rfl
      |true=>exact absurd (List.any_eq_true.2 ⟨f,hf,hx⟩) hb
    unfold bad at hbf
    rw [if_pos hc]at hbf
    have hF:A8H m f 4 4=true:=by cases hx:A8H m f 4 4 with|true=>rfl|false=>rw [hx]at hbf;cases hbf
    obtain⟨F,rfl,h1,h2⟩:=F1C hF
    obtain⟨M,rfl,_,hl,_⟩:=D7c hk
    exact⟨F,rfl,h2,fun a ha=>⟨(h1 a ha).1,(h1 a ha).2.1,by have:=(h1 a ha).2.2;rw [List.length_map]at this;omega⟩⟩
theorem D8l {m:FP} {f:List FP} (h:U3 m f=0):form m=0:=by
  unfold U3 at h
  by_cases c:form m≠0
  · rw [if_pos c]at h;exact h
  · exact Decidable.not_not.1 c
theorem F8K {f:List FP} (h:A3L f):Ev (fun k=>k8 k f) false:=by
  have hl:=h.1
  have h1:Ev (fun k=>A4y k f) (ix (fun a=>a.any d6) 0 f):=by
    show Ev (fun k=>A9C (f8 k) _) _
    unfold A9C
    refine Y1 (d:=([]:FP)) (l:=f) (by omega) (fun k i (_:Unit)=>f8 k f (f.length:Int) i) (fun n _ l=>ix (fun a=>a.any d6) n l) (fun _ _=>True) () trivial ?_ ?_
    · intro _ _
      show Ev (fun k=>A2Z (f8 k) (A0A k) _ _ _) _
      unfold A2Z
      exact C7 (Int.lt_irrefl _) (Ev.now _)
    · intro pre a post _ hp hi hr _ ih
      show Ev (fun k=>A2Z (f8 k) (A0A k) _ _ _) _
      unfold A2Z
      refine N5 hi (by omega) hi ?_
      rw [hr]
      have h1:Ev (fun k=>A0A k a) (a.any d6):=Ev.bind (D2f (h.2 a (by rw [hp];simp)).1) (Ev.now _)
      exact Ev.bind h1 (A4I (fun _=>Ev.now _) fun _=>ih () trivial)
  have e:f.any (fun a=>a.any d6)=false:=by
    rw [List.any_eq_false]
    intro a ha
    rw [Bool.not_eq_true,List.any_eq_false]
    intro x hx
    obtain⟨q,rfl,hq⟩:=(h.2 a ha).2 x hx
    unfold d6
    rw [if_neg (show¬1024<(fr q).1.2.size from Nat.not_lt.2 hq.1),decide_eq_true_eq]
    exact Nat.not_lt.2 hq.2
  have h2:Ev (fun k=>k8 k f) (decide (ix (fun a=>a.any d6) 0 f≥0)):=Ev.bind (Ev.bind h1 (Ev.now _)) (Ev.now _)
  rw [B3Z,e]at h2
  exact h2
theorem Cs.up {D E s t:Nat} {a:Rat} (hE:E≠0) (h:Cs D s a) (he:(B2 E).size≤t):Cs (D*E) (s+t) a:=by
  obtain⟨n,rfl,h1⟩:=h
  exact⟨n*(E:Int),(Rat.mkRat_mul_right hE).symm,A1f h1 (n:=t) (by rw [Z1];exact he)⟩
theorem Pz.up {D E s t B:Nat} {a:List Rat} (hE:E≠0) (h:Pz D s B a) (he:(B2 E).size≤t):Pz (D*E) (s+t) B a:=⟨h.len,h.tr,fun m=>(h.cs m).up hE he⟩
theorem D1i {D j:Nat} (h:D≠0):D^j≠0:=Nat.pos_iff_ne_zero.1 (Nat.pow_pos (Nat.pos_of_ne_zero h))
theorem C3H {D t:Nat} (h:(B2 D).size≤t):∀j,(B2 (D^j)).size≤t*j+1
  | 0=>by
    have:(B2 1).size=1:=by decide +kernel
    rw [Nat.pow_zero];omega
  | j+1=>by
    rw [Nat.pow_succ,Nat.mul_succ]
    have:=Y5 (C3H h j) h
    omega
def D9j (n:Nat) (x:List Rat):Prop:=(∀q,q∈x→Sm 8 q)∧Tr x∧x.length≤n
theorem E1u {x:List Rat} (h:D9j 4 x):∃D,D≠0∧(B2 D).size≤33∧Pz D 41 4 x:=by
  obtain⟨h1,h2,h3⟩:=h
  obtain⟨D,d1,d2,d3⟩:=C1e h1
  exact⟨D,d1,by omega,Pz.of h3 h2 fun q hq=>(d3 q hq).mono (by omega)⟩
theorem E6Q {F:PQ} (hF:Few F):∃D,D≠0∧(B2 D).size≤161∧∀i,Pz D 169 4 (C6 F i):=by
  have h1:=D1b fun a ha=>(hF.2 a ha).2.2
  obtain⟨D,d1,d2,d3⟩:=C1e (l:=F.flatten) fun q hq=>by
    obtain⟨a,ha,hq⟩:=List.mem_flatten.1 hq
    exact(hF.2 a ha).1 q hq
  have:=hF.1
  exact⟨D,d1,by omega,E3H hF fun a ha q hq=>(d3 q (List.mem_flatten.2 ⟨a,ha,hq⟩)).mono (by omega)⟩
section
variable {D E s t B C:Nat} {M a b:List Rat} (hM:Mk M) (hD:D≠0) (hE:E≠0) (ha:Pz D s B a) (hb:Pz E t C b) (b1:(B2 D).size+(B2 E).size≤9000) (b2:s+t+B+9*(B+C)≤8000) (b3:B+C<100000)
include hM hD hE ha hb
def A1b (M a b:List Rat):List Rat:=S8 (R4 a b) M
theorem B7J:Pz (D*E) (s+t+B+9*(B+C)) (M.length-1) (A1b M a b):=(ha.mul hD hE hb).rem hM (X9 hD hE)
include b1 b2 b3
theorem D1r:Ev (fun k=>O8 k (M.map fr) (a.map fr) (b.map fr)) ((A1b M a b).map fr):=by
  show Ev (fun k=>B3I (L5 k) (O1 k) _ _ _) _
  unfold B3I
  exact Ev.bind (D4x (ha.ml hD hE hb b1 (by omega) (by omega) (by omega))) (Ev.bind (D3M hM (X9 hD hE) (ha.mul hD hE hb) (Nat.le_trans (Y5 (Nat.le_refl _) (Nat.le_refl _)) b1) (by omega) (by omega)) (Ev.now _))
theorem D1a:Ev (fun k=>Z2 k (M.map fr) (a.map fr) (b.map fr)) ((A1b M a b).map fr):=by
  show Ev (fun k=>B5n (Q9 k) (P2 k) _ _ _) _
  unfold B5n
  exact Ev.bind (C3Q (ha.ml hD hE hb b1 (by omega) (by omega) (by omega))) (Ev.bind (C1W hM (X9 hD hE) (ha.mul hD hE hb) (Nat.le_trans (Y5 (Nat.le_refl _) (Nat.le_refl _)) b1) (by omega) (by omega)) (Ev.now _))
end
theorem C2m (l:PQ) (j:Nat):C6 (I6 List.isEmpty l) j=C6 l j:=by
  have key:∀r:PQ,C6 (I6 List.isEmpty r.reverse) j=C6 r.reverse j:=by
    intro r
    induction r with
    |nil=>rfl
    | cons a r ih=>
      rw [List.reverse_cons,B2Q]
      split
      · rename_i h
        rw [ih]
        unfold C6
        rw [List.getD_eq_getElem?_getD,List.getD_eq_getElem?_getD]
        rcases Nat.lt_or_ge j r.reverse.length with h1|h1
        · rw [List.getElem?_append_left h1]
        · rw [List.getElem?_append_right h1,List.getElem?_eq_none h1]
          rcases Nat.eq_zero_or_pos (j-r.reverse.length)with h2|h2
          · rw [h2];exact(List.isEmpty_iff.1 h).symm
          · rw [List.getElem?_eq_none (by rw [List.length_singleton];exact h2)]
      · rfl
  have:=key l.reverse
  rwa [List.reverse_reverse]at this
theorem C8D {n j:Nat} {c:Nat→List Rat}:C6 (plF n c) j=if j<n then c j else []:=by
  unfold plF
  rw [C2m]
  split
  · rename_i h;unfold C6;rw [List.getD_eq_getElem?_getD,A5P h];rfl
  · rename_i h;exact A9D (by rw [H6];omega)
theorem E8W (F G:PQ) (j:Nat):C6 (w8 F G) j=O7 (C6 F j) (C6 G j):=by
  unfold w8
  rw [C8D]
  split
  · rfl
  · rw [A9D (show F.length≤j by omega),A9D (show G.length≤j by omega)];rfl
section
variable (M:List Rat) (F:PQ) (x:List Rat) (X:PQ)
def vl:Nat→List Rat
  |0=>[]
  |d+1=>O7 (A1b M (vl d) x) (C6 F (F.length-1-d))
def X1 (a:List Rat):PQ:=I6 List.isEmpty [a]
def sh:Nat→PQ
  |0=>[]
  |d+1=>w8 (O5 M (sh d) X) (X1 (C6 F (F.length-1-d)))
end
def D4 (x:List Rat):PQ:=I6 List.isEmpty [x,[1]]
theorem D6B (a:List Rat) (j:Nat):C6 (X1 a) j=if j=0 then a else []:=by
  unfold X1
  rw [C2m]
  cases j with
  |zero=>rfl
  |succ j=>rfl
theorem D4C (a:List Rat):(X1 a).length≤1:=B4F List.isEmpty [a]
theorem D2s (a:List Rat):(D4 a).length≤2:=B4F List.isEmpty [a,[1]]
theorem F3w (a:List Rat):Ev (fun k=>E8 k [a.map fr]) (fm (X1 a)):=by
  have h:=C5M (f:=fm [a]) (by show 1<_;decide)
  rw [B3G]at h
  exact h
theorem E1F (a:List Rat):Ev (fun k=>J1 k [a.map fr]) (fm (X1 a)):=by
  have h:=C4I (f:=fm [a]) (by show 1<_;decide)
  rw [B3G]at h
  exact h
theorem E7D (a:List Rat):Ev (fun k=>E8 k [a.map fr,[1].map fr]) (fm (D4 a)):=by
  have h:=C5M (f:=fm [a,[1]]) (by show 2<_;decide)
  rw [B3G]at h
  exact h
theorem E0S (a:List Rat):Ev (fun k=>J1 k [a.map fr,[1].map fr]) (fm (D4 a)):=by
  have h:=C4I (f:=fm [a,[1]]) (by show 2<_;decide)
  rw [B3G]at h
  exact h
theorem E0n (k:Nat):L9 (k+60) [1]=some ([1].map fr):=by kernel_rfl
theorem F0Y (k:Nat):o3 (k+60) [1]=some ([1].map fr):=by kernel_rfl
theorem E4V:Ev (fun k=>L9 k [1]) ([1].map fr):=⟨60,fun k hk=>by
  obtain⟨m,rfl⟩:=Nat.exists_eq_add_of_le' hk
  exact E0n m⟩
theorem F2L:Ev (fun k=>o3 k [1]) ([1].map fr):=⟨60,fun k hk=>by
  obtain⟨m,rfl⟩:=Nat.exists_eq_add_of_le' hk
  exact F0Y m⟩
section
variable {D E:Nat} {M x:List Rat} {F:PQ} (hM:Mk M) (m1:M.length≤5) (m2:2≤M.length) (hD:D≠0) (hE:E≠0) (hF:∀i,Pz D 169 4 (C6 F i)) (hx:Pz E 41 4 x) (lF:F.length≤5) (sD:(B2 D).size≤161) (sE:(B2 E).size≤33)
include hM m1 m2 hD hE hF hx lF sD sE
theorem dne (d:Nat):D*E^d≠0:=X9 hD (D1i hE)
theorem dsz (d:Nat):(B2 (D*E^d)).size≤162+33*d:=by have:=Y5 sD (C3H sE d);omega
theorem D5V (d i:Nat):Pz (D*E^d) (170+33*d) 4 (C6 F i):=((hF i).up (D1i hE) (C3H sE d)).mono (by omega) (Nat.le_refl _)
theorem B7c:∀d,d≤5→Pz (D*E^d) (170+125*d) 4 (vl M F x d)
  |0,_=>Pz.nil
  | d+1,h=>by
    have h1:=B7J hM (dne hM m1 m2 hD hE hF hx lF sD sE d) hE (B7c d (by omega)) hx
    rw [Nat.mul_assoc,←Nat.pow_succ]at h1
    have h2:=h1.add (u:=170+125*d+124) (dne hM m1 m2 hD hE hF hx lF sD sE (d+1)) (D5V hM m1 m2 hD hE hF hx lF sD sE (d+1) (F.length-1-d)) (by omega) (by omega)
    exact h2.mono (by omega) (by omega)
theorem E2U:Ev (fun k=>Z0 k (M.map fr) (fm F) (x.map fr)) ((vl M F x F.length).map fr):=by
  show Ev (fun k=>B85 (A1N k) _ _ _) _
  unfold B85
  rw [J8,I4 (by omega) (by omega)]
  have h:=B8R (n:=F.length) (by omega) (fun k i (s:FP)=>A1N k (fm F) (x.map fr) s i (M.map fr)) (fun i=>(vl M F x (F.length-i)).map fr) (r:=(vl M F x F.length).map fr) ?_ fun i hi ih=>?_
  · rw [Nat.sub_self]at h;exact h
  · show Ev (fun k=>A8N (A1N k) (J6 k) (O8 k) _ _ _ _ _) _
    unfold A8N
    exact C7 (by decide) (Ev.now _)
  · show Ev (fun k=>A8N (A1N k) (J6 k) (O8 k) _ _ _ _ _) _
    unfold A8N
    have hd:F.length-i=(F.length-(i+1))+1:=by omega
    have hp:=B7c hM m1 m2 hD hE hF hx lF sD sE (F.length-(i+1)) (by omega)
    have hn:=dne hM m1 m2 hD hE hF hx lF sD sE (F.length-(i+1))
    have hs:=dsz hM m1 m2 hD hE hF hx lF sD sE (F.length-(i+1))
    have h1:=D1r hM hn hE hp hx (by omega) (by omega) (by decide)
    have hq:=B7J hM hn hE hp hx
    have hs2:(B2 (D*E^(F.length-(i+1))*E)).size≤9000:=Nat.le_trans (Y5 hs sE) (by omega)
    have h2:=C2b (hq.Sl (X9 hn hE) hs2 (by omega) (by omega)) ((hF i).Sl hD (by omega) (by decide) (by decide))
    rw [hd]at ih
    have e:vl M F x (F.length-(i+1)+1)=O7 (A1b M (vl M F x (F.length-(i+1))) x) (C6 F i):=by
      show O7 _ (C6 F (F.length-1-(F.length-(i+1))))=_
      rw [show F.length-1-(F.length-(i+1))=i by omega]
    rw [e]at ih
    rw [J8,A1n hi]
    exact C1 (by omega) (Ev.bind h1 (L7 (by omega) (by omega) (Ev.bind h2 ih)))
theorem F4P:Ev (fun k=>A4i k (M.map fr) (fm F) (x.map fr)) ((vl M F x F.length).map fr):=by
  show Ev (fun k=>B61 (A0W k) _ _ _) _
  unfold B61
  rw [J8,I4 (by omega) (by omega)]
  have h:=B8R (n:=F.length) (by omega) (fun k i (s:FP)=>A0W k (fm F) (x.map fr) s i (M.map fr)) (fun i=>(vl M F x (F.length-i)).map fr) (r:=(vl M F x F.length).map fr) ?_ fun i hi ih=>?_
  · rw [Nat.sub_self]at h;exact h
  · show Ev (fun k=>A9Z (A0W k) (I2 k) (Z2 k) _ _ _ _ _) _
    unfold A9Z
    exact C7 (by decide) (Ev.now _)
  · show Ev (fun k=>A9Z (A0W k) (I2 k) (Z2 k) _ _ _ _ _) _
    unfold A9Z
    have hd:F.length-i=(F.length-(i+1))+1:=by omega
    have hp:=B7c hM m1 m2 hD hE hF hx lF sD sE (F.length-(i+1)) (by omega)
    have hn:=dne hM m1 m2 hD hE hF hx lF sD sE (F.length-(i+1))
    have hs:=dsz hM m1 m2 hD hE hF hx lF sD sE (F.length-(i+1))
    have h1:=D1a hM hn hE hp hx (by omega) (by omega) (by decide)
    have hq:=B7J hM hn hE hp hx
    have hs2:(B2 (D*E^(F.length-(i+1))*E)).size≤9000:=Nat.le_trans (Y5 hs sE) (by omega)
    have h2:=B6F (hq.Sl (X9 hn hE) hs2 (by omega) (by omega)) ((hF i).Sl hD (by omega) (by decide) (by decide))
    rw [hd]at ih
    have e:vl M F x (F.length-(i+1)+1)=O7 (A1b M (vl M F x (F.length-(i+1))) x) (C6 F i):=by
      show O7 _ (C6 F (F.length-1-(F.length-(i+1))))=_
      rw [show F.length-1-(F.length-(i+1))=i by omega]
    rw [e]at ih
    rw [J8,A1n hi]
    exact C1 (by omega) (Ev.bind h1 (L7 (by omega) (by omega) (Ev.bind h2 ih)))
def scF (M:List Rat) (F:PQ) (x:List Rat):PQ:=plF F.length fun i=>A1b M (C6 F i) x
theorem E9N:Ev (fun k=>A1v k (M.map fr) (fm F) (x.map fr)) (fm (scF M F x)):=by
  show Ev (fun k=>B5m (A0c k) _ _ _) _
  unfold B5m
  rw [J8]
  refine C1 (by omega) (C1 (Int.le_refl _) (C1 (by rw [Int.toNat_natCast];omega) ?_))
  rw [Int.toNat_natCast,B1G]
  refine X5 (n:=F.length) (by omega) (fun k i (s:List FP)=>A0c k (x.map fr) (fm F) (F.length:Int) i (M.map fr) s) (fun i=>tb F.length fun j=>if j<i then(A1b M (C6 F j) x).map fr else []) ?_ fun i hi ih=>?_
  · show Ev (fun k=>A7U (A0c k) (E8 k) (O8 k) _ _ _ _ _ _) _
    unfold A7U
    rw [q7 (h':=fun j=>(A1b M (C6 F j) x).map fr) fun j hj=>if_pos hj]
    exact C7 (by omega) (Ev.bind (D0Z (by omega)) (Ev.now _))
  · show Ev (fun k=>A7U (A0c k) (E8 k) (O8 k) _ _ _ _ _ _) _
    unfold A7U
    rw [wi (by omega),H6,J8,A1n hi]
    refine N5 (by omega) (by omega) (by omega) (Ev.bind (D1r hM hD hE (hF i) hx (by omega) (by decide) (by decide)) (L7 (by omega) (by omega) ?_))
    rw [D4O (c:=fun j=>(A1b M (C6 F j) x).map fr) hi rfl]
    exact ih
theorem F1q:Ev (fun k=>A5n k (M.map fr) (fm F) (x.map fr)) (fm (scF M F x)):=by
  show Ev (fun k=>B60 (A1U k) _ _ _) _
  unfold B60
  rw [J8]
  refine X5 (n:=F.length) (by omega) (fun k i (s:List FP)=>A1U k (x.map fr) (fm F) (F.length:Int) i (M.map fr) s) (fun i=>tb i fun j=>(A1b M (C6 F j) x).map fr) ?_ fun i hi ih=>?_
  · show Ev (fun k=>A7W (A1U k) (J1 k) (Z2 k) _ _ _ _ _ _) _
    unfold A7W
    exact C7 (by omega) (Ev.bind (D1X (by omega)) (Ev.now _))
  · show Ev (fun k=>A7W (A1U k) (J1 k) (Z2 k) _ _ _ _ _ _) _
    unfold A7W
    rw [wi (by omega),H6,J8,A1n hi]
    refine N5 (by omega) (by omega) (by omega) (Ev.bind (D1a hM hD hE (hF i) hx (by omega) (by decide) (by decide)) (C1 (by omega) ?_))
    rw [A6K (h:=fun j=>(A1b M (C6 F j) x).map fr)]
    exact ih
theorem D3D (i:Nat):Pz E 41 4 (C6 (D4 x) i):=by
  unfold D4
  rw [C2m]
  match i with
  |0=>exact hx
  | 1=>
    show Pz E 41 4 [1]
    refine Pz.of (by decide) (fun a ha=>?_) fun q hq=>?_
    · rw [show([1]:List Rat).getLast?=some 1 from rfl]at ha;cases ha;decide +kernel
    · rw [List.mem_singleton.1 (show q∈([1]:List Rat)from hq)]
      refine⟨(E:Int),?_,by rw [Z1];omega⟩
      have:=Rat.mkRat_mul_right (n:=1) (d:=1) hE
      rw [Int.one_mul,Nat.one_mul]at this
      rw [this];decide +kernel
  |i+2=>exact Pz.nil
theorem C6u:∀d,d≤5→(sh M F (D4 x) d).length≤d∧∀i,Pz (D*E^d) (170+130*d) 4 (C6 (sh M F (D4 x) d) i)
  |0,_=>⟨Nat.le_refl _,fun i=>by rw [show C6 (sh M F (D4 x) 0) i=[]from A9D (Nat.zero_le _)];exact Pz.nil⟩
  | d+1,h=>by
    obtain⟨h1,h2⟩:=C6u d (by omega)
    have hg:=D2s x
    have ho:=D4C (C6 F (F.length-1-d))
    have hn:=dne hM m1 m2 hD hE hF hx lF sD sE d
    refine⟨?_,fun i=>?_⟩
    · have e1:=C0L (max (O5 M (sh M F (D4 x) d) (D4 x)).length (X1 (C6 F (F.length-1-d))).length) fun i=>O7 (C6 (O5 M (sh M F (D4 x) d) (D4 x)) i) (C6 (X1 (C6 F (F.length-1-d))) i)
      have e2:=C0L ((sh M F (D4 x) d).length+(D4 x).length-1) fun m=>S8 (L2 (sh M F (D4 x) d) (D4 x) m (sh M F (D4 x) d).length) M
      show(w8 _ _).length≤_
      unfold w8
      unfold O5 at e1⊢
      omega
    · show Pz _ _ _ (C6 (w8 _ _) i)
      rw [E8W,D6B]
      have hm:Pz (D*E^(d+1)) (170+130*d+129) 4 (C6 (O5 M (sh M F (D4 x) d) (D4 x)) i):=by
        unfold O5
        rw [C8D]
        split
        · have h3:=(A7m hM hn hE h2 (D3D hM m1 m2 hD hE hF hx lF sD sE) i (sh M F (D4 x) d).length).rem hM (X9 hn hE)
          rw [Nat.mul_assoc,←Nat.pow_succ]at h3
          exact h3.mono (by omega) (by omega)
        · exact Pz.nil
      have hf:Pz (D*E^(d+1)) (170+130*d+129) 4 (if i=0 then C6 F (F.length-1-d)else []):=by
        split
        · exact(D5V hM m1 m2 hD hE hF hx lF sD sE (d+1) _).mono (by omega) (Nat.le_refl _)
        · exact Pz.nil
      have h4:=hm.add (dne hM m1 m2 hD hE hF hx lF sD sE (d+1)) hf (Nat.le_refl _) (Nat.le_refl _)
      exact h4.mono (by omega) (by omega)
theorem D5A {d:Nat} (hd:d≤4) (f:List Rat) (hf:Pz D 169 4 f):Ev (fun k=>A1c k (M.map fr) (fm (sh M F (D4 x) d)) (fm (D4 x))) (fm (O5 M (sh M F (D4 x) d) (D4 x)))∧
    Ev (fun k=>A1a k (M.map fr) (fm (sh M F (D4 x) d)) (fm (D4 x))) (fm (O5 M (sh M F (D4 x) d) (D4 x)))∧
    Ev (fun k=>A2B k (fm (O5 M (sh M F (D4 x) d) (D4 x))) (fm (X1 f))) (fm (w8 (O5 M (sh M F (D4 x) d) (D4 x)) (X1 f)))∧
    Ev (fun k=>A1Z k (fm (O5 M (sh M F (D4 x) d) (D4 x))) (fm (X1 f))) (fm (w8 (O5 M (sh M F (D4 x) d) (D4 x)) (X1 f))):=by
  obtain⟨h1,h2⟩:=C6u hM m1 m2 hD hE hF hx lF sD sE d (by omega)
  have hn:=dne hM m1 m2 hD hE hF hx lF sD sE d
  have hs:=dsz hM m1 m2 hD hE hF hx lF sD sE d
  have hg:=D3D hM m1 m2 hD hE hF hx lF sD sE
  have lg:=D2s x
  have l1:=D4C f
  have lm:=C0L ((sh M F (D4 x) d).length+(D4 x).length-1) fun m=>S8 (L2 (sh M F (D4 x) d) (D4 x) m (sh M F (D4 x) d).length) M
  have lm':(O5 M (sh M F (D4 x) d) (D4 x)).length<400000:=Nat.lt_of_le_of_lt lm (by omega)
  have s1:∀i,(C6 (O5 M (sh M F (D4 x) d) (D4 x)) i).length<400000∧∀y,y∈C6 (O5 M (sh M F (D4 x) d) (D4 x)) i→Sm 9000 y:=fun i=>by
    have hm:Pz (D*E^d*E) 9000 4 (C6 (O5 M (sh M F (D4 x) d) (D4 x)) i):=by
      unfold O5
      rw [C8D]
      split
      · exact((A7m hM hn hE h2 hg i (sh M F (D4 x) d).length).rem hM (X9 hn hE)).mono (by omega) (by omega)
      · exact Pz.nil
    exact hm.sl (X9 hn hE) (Nat.le_trans (Y5 hs sE) (by omega)) (by decide) (by decide)
  have s2:∀i,(C6 (X1 f) i).length<400000∧∀y,y∈C6 (X1 f) i→Sm 9000 y:=fun i=>by
    rw [D6B]
    split
    · exact hf.sl hD (by omega) (by decide) (by decide)
    · exact⟨by decide,fun y hy=>by cases hy⟩
  exact⟨E3J hM hn hE h2 hg (by omega) (by omega) (by omega) (by omega) (by decide),F3d hM hn hE h2 hg (by omega) (by omega) (by omega) (by omega) (by decide),E6E lm' (by omega) s1 s2,F1f lm' (by omega) s1 s2⟩
theorem E8l:Ev (fun k=>A5G k (x.map fr) (fm F) (M.map fr)) (fm (sh M F (D4 x) F.length)):=by
  show Ev (fun k=>B4N (A1R k) (L9 k) (E8 k) _ _ _) _
  unfold B4N
  refine Ev.bind E4V (Ev.bind (E7D x) ?_)
  rw [J8,I4 (by omega) (by omega)]
  have h:=B8R (n:=F.length) (by omega) (fun k i (s:List FP)=>A1R k (fm F) (M.map fr) s (fm (D4 x)) i) (fun i=>fm (sh M F (D4 x) (F.length-i))) (r:=fm (sh M F (D4 x) F.length)) ?_ fun i hi ih=>?_
  · rw [Nat.sub_self]at h;exact h
  · show Ev (fun k=>A7a (A1R k) (E8 k) (A2B k) (A1c k) _ _ _ _ _) _
    unfold A7a
    exact C7 (by decide) (Ev.now _)
  · show Ev (fun k=>A7a (A1R k) (E8 k) (A2B k) (A1c k) _ _ _ _ _) _
    unfold A7a
    have hd:F.length-i=(F.length-(i+1))+1:=by omega
    obtain⟨p1,_,p3,_⟩:=D5A hM m1 m2 hD hE hF hx lF sD sE (d:=F.length-(i+1)) (by omega) (C6 F i) (hF i)
    rw [hd]at ih
    have e:sh M F (D4 x) (F.length-(i+1)+1)=w8 (O5 M (sh M F (D4 x) (F.length-(i+1))) (D4 x)) (X1 (C6 F i)):=by
      show w8 _ (X1 (C6 F (F.length-1-(F.length-(i+1)))))=_
      rw [show F.length-1-(F.length-(i+1))=i by omega]
    rw [e]at ih
    rw [J8 F,A1n hi]
    exact C1 (by omega) (Ev.bind p1 (L7 (by omega) (by omega) (Ev.bind (F3w _) (Ev.bind p3 ih))))
theorem F1s:Ev (fun k=>A5p k (M.map fr) (fm F) (x.map fr)) (fm (sh M F (D4 x) F.length)):=by
  show Ev (fun k=>B58 (A1C k) _ _ _) _
  unfold B58
  rw [J8,I4 (by omega) (by omega)]
  have h:=B8R (n:=F.length) (by omega) (fun k i (s:List FP)=>A1C k (fm F) (x.map fr) s i (M.map fr)) (fun i=>fm (sh M F (D4 x) (F.length-i))) (r:=fm (sh M F (D4 x) F.length)) ?_ fun i hi ih=>?_
  · rw [Nat.sub_self]at h;exact h
  · show Ev (fun k=>A9m (A1C k) (o3 k) (A1Z k) (A1a k) (J1 k) (P2 k) _ _ _ _ _) _
    unfold A9m
    exact C7 (by decide) (Ev.now _)
  · show Ev (fun k=>A9m (A1C k) (o3 k) (A1Z k) (A1a k) (J1 k) (P2 k) _ _ _ _ _) _
    unfold A9m
    have hd:F.length-i=(F.length-(i+1))+1:=by omega
    obtain⟨_,p2,_,p4⟩:=D5A hM m1 m2 hD hE hF hx lF sD sE (d:=F.length-(i+1)) (by omega) (C6 F i) (hF i)
    have t1:Tr ([1]:List Rat):=fun a ha=>by rw [show([1]:List Rat).getLast?=some 1 from rfl]at ha;cases ha;decide +kernel
    have hone:Pz 1 9 1 [1]:=Pz.of (by decide) t1 fun q hq=>by
      rw [List.mem_singleton.1 hq];exact Cs.int (by decide +kernel) (by decide +kernel)
    have hr:=C1W hM (by decide) hone (by decide +kernel) (by decide) (by decide)
    rw [C9Q t1 (by show 1<_;omega)]at hr
    rw [hd]at ih
    have e:sh M F (D4 x) (F.length-(i+1)+1)=w8 (O5 M (sh M F (D4 x) (F.length-(i+1))) (D4 x)) (X1 (C6 F i)):=by
      show w8 _ (X1 (C6 F (F.length-1-(F.length-(i+1)))))=_
      rw [show F.length-1-(F.length-(i+1))=i by omega]
    rw [e]at ih
    rw [J8 F,A1n hi]
    exact C1 (by omega) (Ev.bind F2L (Ev.bind hr (Ev.bind (E0S x) (Ev.bind p2 (L7 (by omega) (by omega) (Ev.bind (E1F _) (Ev.bind p4 ih)))))))
end
end Go.Proofs.YtijohnkgomcdbaaGreatV
set_option maxRecDepth 10000
namespace Go.Proofs.YtijohnkgomcdbaaGreatV
open Go Go.RowKit YtijohnkgomcdbaaGreat YtijohnkgomcdbaaGreatE YtijohnkgomcdbaaGreatW.PrintWords YtijohnkgomcdbaaGreatW.PrintLast YtijohnkgomcdbaaGreatW.PrintMore
theorem B7:F0 Tryz.prog E0:=⟨by kernel_rfl,by kernel_rfl,by kernel_rfl⟩
theorem HM:Tryz.prog.follows .mixedOrders=true:=Tryz.checked.mixed
section
variable {P:Program} {f:Nat}
theorem E7L {k:IntKind} {x:Int} {r:V} (h:∀w,A3w P f #[.int k x] w fun v w'=>w'=w∧∀bl φ,C3 w bl φ r v):Ct P f [.a (.v (.it k) x)] [] r []:=by
 refine⟨(fun q hq=>nomatch hq),fun w0 bl0 φ0 vs _ hm hr=>?_⟩
 cases hr with
 |cons h1 hr=>
  cases hr with
  |nil=>
   rw [E4.1 h1]
   exact(h w0).mono fun v w' ⟨e,hv⟩=>⟨φ0,by rw [e];exact E3.refl hm,by rw [e];exact hv _ _⟩
theorem D5Y {k1 k2 k3:IntKind} {x y z:Int} {r:V} (h:∀w,A3w P f #[.int k1 x, .int k2 y, .int k3 z] w fun v w'=>w'=w∧∀bl φ,C3 w bl φ r v):Ct P f [.a (.v (.it k1) x), .a (.v (.it k2) y), .a (.v (.it k3) z)] [] r []:=by
 refine⟨(fun q hq=>nomatch hq),fun w0 bl0 φ0 vs _ hm hr=>?_⟩
 cases hr with
 |cons h1 hr=>
  cases hr with
  |cons h2 hr=>
   cases hr with
   |cons h3 hr=>
    cases hr with
    |nil=>
     rw [E4.1 h1,E4.1 h2,E4.1 h3]
     exact(h w0).mono fun v w' ⟨e,hv⟩=>⟨φ0,by rw [e];exact E3.refl hm,by rw [e];exact hv _ _⟩
theorem E9G {fn:Func} {c:Code} (hf:P.funcs[f]?=some fn) (hname:(fn.name== "runtime.NumGoroutine")=false) (hb:fn.body=some c) {args:Array Value} {w:World} {Q:Value→World→Prop} (h:Calls P f args w fun e w'=>∃v,e= .returned v∧Q v w'):A3w P f args w Q:=
 Or.inl ⟨by simp only [callFunc,Sem.run_bind,run_program,Result.andThen_ok,hf,hname,hb,Option.isNone_some,Bool.false_eq_true,if_false,Sem.run_pure],h⟩
end
theorem C3G (k:Nat):B5 Tryz.prog (B9z (N0 k)):=by
 rintro⟨⟨x,y,c,⟨⟩⟩,⟨⟩⟩ o h v hv
 replace h:All.bits_Add64.f x y c=some o:=h
 cases hv
 unfold All.bits_Add64.f at h
 by_cases hc:0≤x∧0≤y∧0≤c∧c≤1
 ·rw [if_pos hc]at h
  cases h
  refine D5Y fun w=>Or.inr ⟨_,w,?_,rfl,fun bl φ=>⟨_,rfl, .cons (E4.2 rfl) (.cons (E4.2 rfl) .nil)⟩⟩
  show(callFunc 247 #[.int .u64 x, .int .u64 y, .int .u64 c]).run _ w=_
  rw [run_callFunc_extern Tryz.func247 (by kernel_rfl) (by kernel_rfl) (by kernel_rfl) (by kernel_rfl),run_add64 x y c hc.1 hc.2.1 hc.2.2.1 hc.2.2.2]
  rfl
 ·rw [if_neg hc]at h;cases h
theorem E2d (x y c:Int) (hx:0≤x) (hy:0≤y) (hc0:0≤c) (hc:c≤1) (w:World):
  (callFunc 248 #[.int .u64 x, .int .u64 y, .int .u64 c]).run Tryz.prog w= .ok (.value (.tuple #[.int .u64 ((x-y-c)%18446744073709551616), .int .u64 (if x<y+c then 1 else 0)])) w∨¬y≤18446744073709551615:=by
 by_cases hym:y≤18446744073709551615
 ·refine Or.inl ?_
  obtain⟨X,rfl⟩:=Int.eq_ofNat_of_zero_le hx
  obtain⟨Y,rfl⟩:=Int.eq_ofNat_of_zero_le hy
  obtain⟨C,rfl⟩:=Int.eq_ofNat_of_zero_le hc0
  rw [run_callFunc_extern Tryz.func248 (by kernel_rfl) (by kernel_rfl) (by kernel_rfl) (by kernel_rfl),run_sub64 X Y C (by omega)]
  have e1:(((X+18446744073709551616-Y-C)%18446744073709551616:Nat):Int)=((X:Int)-Y-C)%18446744073709551616:=by omega
  have e2:((if X<Y+C then 1 else 0:Nat):Int)=if(X:Int)<Y+C then 1 else 0:=by split<;>split<;>omega
  rw [e1,e2]
  rfl
 ·exact Or.inr hym
theorem D3J (k:Nat):B5 Tryz.prog (C8E (c7 k)):=by
 rintro⟨⟨x,y,c,⟨⟩⟩,⟨⟩⟩ o h v hv
 replace h:All.bits_Sub64.f x y c=some o:=h
 cases hv
 unfold All.bits_Sub64.f at h
 split at h
 ·rename_i hc
  cases h
  refine D5Y fun w=>Or.inr ⟨_,w,?_,rfl,fun bl φ=>⟨_,rfl, .cons (E4.2 rfl) (.cons (E4.2 rfl) .nil)⟩⟩
  exact(E2d x y c hc.1 hc.2.1 hc.2.2.2.1 hc.2.2.2.2 w).resolve_right fun h=>h hc.2.2.1
 ·cases h
theorem F2j (k:Nat):B5 Tryz.prog (D3A (B5w k)):=by
 rintro⟨⟨x,⟨⟩⟩,⟨⟩⟩ o h v hv
 replace h:All.bits_Len64.f x=some o:=h
 cases hv
 unfold All.bits_Len64.f at h
 split at h
 ·rename_i hc
  cases h
  refine E7L fun w=>E9G (c:=D6v.cd) Tryz.func297 (by kernel_rfl) (by kernel_rfl) ((Go.Proofs.YtijohnkgomcdbaaGreatX.len64_says x w hc.1 hc.2).mono ?_)
  rintro e w' ⟨rfl,rfl⟩
  exact⟨_,rfl,rfl,fun bl φ=>E4.2 rfl⟩
 ·cases h
theorem C3t {l:List Int} {x:Int} (h0:0≤x) (h1:x≤l.length):(((l.take x.toNat).length:Int),l.take x.toNat++l.drop (l.take x.toNat).length)=(x,l):=by
 have e:(l.take x.toNat).length=x.toNat:=by rw [List.length_take];omega
 rw [e,List.take_append_drop,Int.toNat_of_nonneg h0]
theorem B8B:∀(k:Nat) (l:List Int),All.galoisref01_trimV.f k l=All.galoisref01_trim.f k l
 |0,l=>rfl
 |k+1,l=>by
  have ih:=B8B k
  show All.galoisref01_trimV.l0 (k+1) l=All.galoisref01_trim.l0 (k+1) l
  rw [All.galoisref01_trimV.l0,All.galoisref01_trim.l0]
  have ih':∀l,All.galoisref01_trimV.l0 k l=All.galoisref01_trim.l0 k l:=ih
  simp only [ih']
noncomputable abbrev A7x (k:Nat) (x3:Int) (y0:List Int):Option u6:=(All.exact_trim.l0 k y0 x3).bind fun r=>some ((r.length:Int),r++y0.drop r.length)
theorem E5p (k:Nat) (x3:Int) (y0:List Int):A0 (A7x (k+1) x3 y0) (C4O (A7x k) x3 y0):=by
 unfold A7x
 rw [All.exact_trim.l0]
 unfold C4O
 simp only [W8,F6,Option.bind_none]
 repeat' first
 | (with_reducible exact A0.none _)
 | (with_reducible exact A0.refl _)
 | (with_reducible refine A0.posR (by with_reducible assumption) ?_)
 | (with_reducible refine A0.negR (by with_reducible assumption) ?_)
 | (with_reducible refine A0.iteL (fun _=>?_) (fun _=>?_))
 | (refine A0.posR (by first|decide|exact Int.le_refl _|omega) ?_)
 | (rw [C3t (by assumption) (by assumption)])
theorem E7g (k:Nat) (y0:List Int):A0 (M5 k y0) (D5h (A7x k) y0):=A0.refl _
noncomputable abbrev A5z (k:Nat) (x0:Int) (y0:List Int):Option A1E:=if 0≤x0∧x0≤y0.length then(All.galoisref01_trim.l0 k (y0.take x0.toNat)).bind fun r=>some ((r.length:Int),r++y0.drop r.length)else none
theorem B0B {l:List Int} {x i:Int} (h0:0≤i) (h:i<x):rd (l.take x.toNat) i=rd l i:=by
 unfold rd
 rw [List.getD_eq_getElem?_getD,List.getD_eq_getElem?_getD,List.getElem?_take_of_lt (by omega)]
theorem E9B (k:Nat) (x0:Int) (y0:List Int):A0 (A5z (k+1) x0 y0) (C5F (A5z k) x0 y0):=by
 unfold A5z
 refine A0.iteL (fun hx=>?_) (fun _=>A0.none _)
 have e:(((y0.take x0.toNat).length:Nat):Int)=x0:=by rw [List.length_take];omega
 rw [All.galoisref01_trim.l0]
 unfold C5F
 simp only [W8,F6,Option.bind_none,e,Int.sub_zero,Int.zero_add]
 refine A0.iteL (fun h1=>A0.posR h1 ?_) (fun h1=>A0.negR h1 ?_)
 ·refine A0.iteL (fun h2=>A0.posR h2 ?_) (fun _=>A0.none _)
  refine A0.iteL (fun h3=>A0.posR h3 ?_) (fun _=>A0.none _)
  rw [B0B h2 h3]
  refine A0.iteL (fun h4=>A0.posR h4 ?_) (fun h4=>A0.negR h4 ?_)
  ·refine A0.iteL (fun h5=>?_) (fun _=>A0.none _)
   refine A0.posR (Int.le_refl _) (A0.posR h2 (A0.posR h5 (A0.posR (Int.le_refl _) (A0.posR ⟨h2,by omega⟩ ?_))))
   rw [List.take_take,Nat.min_eq_left (by omega)]
   exact A0.refl _
  ·have e2:=C3t hx.1 hx.2;rw [e]at e2;rw [e2];exact A0.refl _
 ·have e2:=C3t hx.1 hx.2;rw [e]at e2;rw [e2];exact A0.refl _
theorem F5l (k:Nat) (y0:List Int):A0 (b7 k y0) (D0E (A5z k) y0):=by
 unfold b7 D0E A5z
 refine A0.posR ⟨by omega,Int.le_refl _⟩ ?_
 rw [Int.toNat_natCast,List.take_length]
 exact A0.refl _
noncomputable abbrev A7H (k:Nat) (x0:Int) (x1:List Int) (x5:Int) (y0:List Int):Option A2K:=if 0≤x0∧x0≤y0.length then(All.galoisref01_below.l0 k (y0.take x0.toNat) x1 x5).bind fun r=>some (r,y0)else none
theorem E7k (k:Nat) (x0:Int) (x1:List Int) (x5:Int) (y0:List Int):A0 (A7H (k+1) x0 x1 x5 y0) (D1L (A7H k) x0 x1 x5 y0):=by
 unfold A7H
 refine A0.iteL (fun hx=>?_) (fun _=>A0.none _)
 have e:(((y0.take x0.toNat).length:Nat):Int)=x0:=by rw [List.length_take];omega
 rw [All.galoisref01_below.l0]
 unfold D1L
 simp only [W8,F6,Option.bind_none,e,Int.sub_zero,Int.zero_add,ite_not,ne_eq]
 refine A0.iteL (fun h1=>A0.posR h1 ?_) (fun h1=>A0.negR h1 (A0.refl _))
 refine A0.iteL (fun h2=>A0.posR h2 ?_) (fun _=>A0.none _)
 refine A0.iteL (fun h3=>A0.posR h3 (A0.posR h2 ?_)) (fun _=>A0.none _)
 refine A0.iteL (fun h4=>A0.posR h4 ?_) (fun _=>A0.none _)
 rw [B0B h2 h3]
 refine A0.iteL (fun h5=>A0.posR h5 (A0.posR hx (A0.refl _))) (fun h5=>A0.negR h5 ?_)
 exact A0.posR h2 (A0.posR h3 (A0.posR h2 (A0.posR h4 (A0.refl _))))
theorem D7Q:∀(k:Nat) (l r:List Int),All.galoisref01_trim.l0 k l=some r→r++l.drop r.length=l
 |0,l,r,h=>by cases h
 |k+1,l,r,h=>by
  rw [All.galoisref01_trim.l0]at h
  split at h
  ·split at h
   ·split at h
    ·split at h
     ·split at h
      ·rename_i h1 _ _ h2
       have ih:=D7Q k _ _ h
       have hl:r.length≤(l.take (wrap64 ((l.length:Int)-1)).toNat).length:=by
        have:=congrArg List.length ih
        rw [List.length_append]at this
        omega
       have e:l=l.take (wrap64 ((l.length:Int)-1)).toNat++l.drop (wrap64 ((l.length:Int)-1)).toNat:=(List.take_append_drop _ _).symm
       rw [e,List.drop_append_of_le_length hl,←List.append_assoc]
       rw [ih]
      ·cases h
     ·cases h;rw [List.drop_length,List.append_nil]
    ·cases h
   ·cases h
  ·cases h;rw [List.drop_length,List.append_nil]
theorem F6Z (k:Nat) (x1:List Int) (y0:List Int):A0 (z6 k x1 y0) (C3D (A7H k) (b7 k) x1 y0):=by
 unfold z6 C3D b7 A7H All.galoisref01_below.f
 simp only [B8B,m4,F6,W8,Int.sub_zero,ite_not,ne_eq]
 refine A0.bindL fun r hr=>A0.bindR hr ?_
 have e:=D7Q k y0 r hr
 have hl:(r.length:Int)≤y0.length:=by
  have:=congrArg List.length e
  rw [List.length_append]at this
  omega
 have et:y0.take r.length=r:=by
  have:=congrArg (List.take r.length) e
  rwa [List.take_left,eq_comm]at this
 rw [e]
 refine A0.iteL (fun h1=>A0.posR h1 (A0.posR ⟨by omega,hl⟩ ?_)) (fun h1=>A0.negR h1 (A0.refl _))
 rw [Int.toNat_natCast,et]
 exact A0.refl _
end Go.Proofs.YtijohnkgomcdbaaGreatV
namespace Go.Proofs.YtijohnkgomcdbaaGreatV
end Go.Proofs.YtijohnkgomcdbaaGreatV
set_option maxRecDepth 100000
namespace Go.Proofs.YtijohnkgomcdbaaGreatV
open Go Go.RowKit YtijohnkgomcdbaaGreat YtijohnkgomcdbaaGreatE YtijohnkgomcdbaaGreatW.PrintWords YtijohnkgomcdbaaGreatW.PrintLast YtijohnkgomcdbaaGreatW.PrintMore
theorem b15 (k:Nat) (x0:TP):A0 (R0 k x0) (B15 x0):=A0.refl _
theorem C5h (k:Nat):B5 Tryz.prog (B8X (R0 k)):=
 B6 B7 HM D15 (es:=fun k=>[]) (fun k=>fz) Tryz.func15 0 (by kernel_rfl) (fun s=>rfl) (fun k=>[]) (fz) (fun k s0=> .nil) (F:=fun k s=>R0 k s.1.1) (fun k s r h=>(e15 s).trans (b15 k s.1.1 r h)) k
theorem E3U (k:Nat) (x0:TI):A0 (A5Q k x0) (C3g x0):=by
 show A0 (All.galoisref02_Sign.f x0.1 x0.2) _
 unfold All.galoisref02_Sign.f;unfold C3g;(try simp only [All.integer_zero.f,All.exact_stepAt.f,All.S24.f0,All.S24.f1,All.rd_T24,All.z24]);exact BR
theorem F5A (k:Nat):B5 Tryz.prog (D8C (A5Q k)):=
 B6 B7 HM C0K (es:=fun k=>[]) (fun k=>fz) Tryz.func173 0 (by kernel_rfl) (fun s=>rfl) (fun k=>[]) (fz) (fun k s0=> .nil) (F:=fun k s=>A5Q k s.1.1) (fun k s r h=>(E4b s).trans (E3U k s.1.1 r h)) k
theorem E5T (k:Nat) (x0:TQ):A0 (S1 k x0) (B3J (A5Q k) x0):=A0.refl _
theorem D3Z (k:Nat):B5 Tryz.prog (C3P (S1 k)):=
 B6 B7 HM B8Q (es:=fun k=>D3Q (A5Q k)) (fun k=>fc ⟨F5A k,fz⟩) Tryz.func123 0 (by kernel_rfl) (fun s=>rfl) (fun k=>[]) (fz) (fun k s0=> .nil) (F:=fun k s=>S1 k s.1.1) (fun k s r h=>(E5K (A5Q k) s).trans (E5T k s.1.1 r h)) k
theorem F1n (k:Nat) (x0:ByteArray):A0 (i5 k x0) (C4l x0):=by
 show A0 (All.galoisref01_Valid.f x0) _
 unfold All.galoisref01_Valid.f;unfold C4l;(try simp only [All.integer_zero.f,All.exact_stepAt.f,All.S24.f0,All.S24.f1,All.rd_T24,All.z24]);exact BR
theorem D7r (k:Nat):B5 Tryz.prog (C3K (i5 k)):=
 B6 B7 HM B8N (es:=fun k=>[]) (fun k=>fz) Tryz.func178 0 (by kernel_rfl) (fun s=>rfl) (fun k=>[]) (fz) (fun k s0=> .nil) (F:=fun k s=>i5 k s.1.1) (fun k s r h=>(E8z s).trans (F1n k s.1.1 r h)) k
theorem F5U (k:Nat) (x0:TI):A0 (A1M k x0) (D1M (i5 k) x0):=by
 show A0 (All.galoisref02_Valid.f x0.1 x0.2) _
 unfold All.galoisref02_Valid.f;unfold D1M;(try simp only [i5,All.integer_zero.f,All.exact_stepAt.f,All.S24.f0,All.S24.f1,All.rd_T24,All.z24]);exact BR
theorem E3e (k:Nat):B5 Tryz.prog (D5L (A1M k)):=
 B6 B7 HM B8V (es:=fun k=>D7u (i5 k)) (fun k=>fc ⟨D7r k,fz⟩) Tryz.func177 0 (by kernel_rfl) (fun s=>rfl) (fun k=>[]) (fz) (fun k s0=> .nil) (F:=fun k s=>A1M k s.1.1) (fun k s r h=>(E7Q (i5 k) s).trans (F5U k s.1.1 r h)) k
theorem F2d (k:Nat) (x0:ByteArray):A0 (w9 k x0) (C6L x0):=by
 show A0 (All.galoisref01_Fits.f x0) _
 unfold All.galoisref01_Fits.f;unfold C6L;(try simp only [All.integer_zero.f,All.exact_stepAt.f,All.S24.f0,All.S24.f1,All.rd_T24,All.z24]);exact BR
theorem D8e (k:Nat):B5 Tryz.prog (C4k (w9 k)):=
 B6 B7 HM B9M (es:=fun k=>[]) (fun k=>fz) Tryz.func218 0 (by kernel_rfl) (fun s=>rfl) (fun k=>[]) (fz) (fun k s0=> .nil) (F:=fun k s=>w9 k s.1.1) (fun k s r h=>(E7l s).trans (F2d k s.1.1 r h)) k
theorem E3s (k:Nat) (x0:TI):A0 (A4C k x0) (C9J (w9 k) x0):=by
 show A0 (All.galoisref02_Fits.f x0.1 x0.2) _
 unfold All.galoisref02_Fits.f;unfold C9J;(try simp only [w9,All.integer_zero.f,All.exact_stepAt.f,All.S24.f0,All.S24.f1,All.rd_T24,All.z24]);exact BR
theorem F3s (k:Nat):B5 Tryz.prog (D6t (A4C k)):=
 B6 B7 HM C0F (es:=fun k=>D3t (w9 k)) (fun k=>fc ⟨D8e k,fz⟩) Tryz.func217 0 (by kernel_rfl) (fun s=>rfl) (fun k=>[]) (fz) (fun k s0=> .nil) (F:=fun k s=>A4C k s.1.1) (fun k s r h=>(E2R (w9 k) s).trans (E3s k s.1.1 r h)) k
theorem E1M (k:Nat) (x0:TQ):A0 (c9 k x0) (B0x (A4C k) (w9 k) x0):=A0.refl _
theorem E5B (k:Nat):B5 Tryz.prog (D2V (c9 k)):=
 B6 B7 HM B7s (es:=fun k=>D6q (A4C k) (w9 k)) (fun k=>fc ⟨F3s k,fc ⟨D8e k,fz⟩⟩) Tryz.func179 0 (by kernel_rfl) (fun s=>rfl) (fun k=>[]) (fz) (fun k s0=> .nil) (F:=fun k s=>c9 k s.1.1) (fun k s r h=>(E3g (A4C k) (w9 k) s).trans (E1M k s.1.1 r h)) k
noncomputable abbrev A5a (k:Nat) (x0:(List Int)) (x4:Int) (x3:(List Int)):Option S0:=All.galoisref01_pack.l0 k x0 x3 x4
noncomputable abbrev A4r (k:Nat) (x0:(List Int)) (x4:Int) (x5:Int) (x3:(List Int)):Option S0:=All.galoisref01_pack.l1 k x0 x3 x4 x5
theorem E1Z (k:Nat) (x0:(List Int)) (x4:Int) (x3:(List Int)):A0 (All.galoisref01_pack.l0 (k+1) x0 x3 x4) (C4m (A4r k) x0 x4 x3):=by rw [All.galoisref01_pack.l0];unfold C4m;(try simp only [A5a,A4r,All.integer_zero.f,All.exact_stepAt.f,All.S24.f0,All.S24.f1,All.rd_T24,All.z24]);exact BR
theorem E9e (k:Nat) (x0:(List Int)) (x4:Int) (x5:Int) (x3:(List Int)):A0 (All.galoisref01_pack.l1 (k+1) x0 x3 x4 x5) (C4t (A5a k) (A4r k) x0 x4 x5 x3):=by rw [All.galoisref01_pack.l1];unfold C4t;(try simp only [A5a,A4r,All.integer_zero.f,All.exact_stepAt.f,All.S24.f0,All.S24.f1,All.rd_T24,All.z24]);exact BR
theorem E2W (k:Nat) (x0:(List Int)):A0 (I8 k x0) (C9r (A5a k) x0):=by
 show A0 (All.galoisref01_pack.f k x0) _
 unfold All.galoisref01_pack.f;unfold C9r;(try simp only [A5a,A4r,All.integer_zero.f,All.exact_stepAt.f,All.S24.f0,All.S24.f1,All.rd_T24,All.z24]);exact BR
theorem B5u (k:Nat):B5 Tryz.prog (B0N (I8 k)):=
 B6 B7 HM A6Z (es:=fun k=>[]) (fun k=>fz) Tryz.func221 2 (by kernel_rfl) (fun s=>rfl) (fun k=>B6k (A5a k) (A4r k)) (fc ⟨fun s=>rfl,fc ⟨fun s=>rfl,fz⟩⟩) (fun k s0=> .cons (by kernel_rfl) (by kernel_rfl) (fun s r h=>(F3P (A5a k) (A4r k) s0 s).trans (E1Z k s.1.1 s.1.2.1 s.2.1 r h)) (.cons (by kernel_rfl) (by kernel_rfl) (fun s r h=>(E4l (A5a k) (A4r k) s0 s).trans (E9e k s.1.1 s.1.2.1 s.1.2.2.1 s.2.1 r h)) (.nil))) (F:=fun k s=>I8 k s.1.1) (fun k s r h=>(E3v (A5a k) (A4r k) s).trans (E2W k s.1.1 r h)) k
theorem D7y (k:Nat):B5 Tryz.prog (D0p (b7 k)):=
 B6 B7 HM B3D (es:=fun k=>[]) (fun k=>fz) Tryz.func249 1 (by kernel_rfl) (fun s=>rfl) (fun k=>C5T (A5z k)) (fc ⟨fun s=>by show ite _ _ _=none;split<;>rfl,fz⟩) (fun k s0=> .cons (by kernel_rfl) (by kernel_rfl) (fun s r h=>(F7w (A5z k) s0 s).trans (E9B k s.1.1 s.2.1 r h)) (.nil)) (F:=fun k s=>b7 k s.2.1) (fun k s r h=>(F5L (A5z k) s).trans (F5l k s.2.1 r h)) k
noncomputable abbrev A5J (k:Nat) (x0:ByteArray) (x4:Int) (x3:(List Int)):Option W4:=All.galoisref01_limbs.l0 k x0 x3 x4
noncomputable abbrev A5T (k:Nat) (x0:ByteArray) (x4:Int) (x5:Int) (x6:Int) (x3:(List Int)):Option W4:=All.galoisref01_limbs.l1 k x0 x3 x4 x5 x6
theorem E8i (k:Nat) (x0:ByteArray) (x4:Int) (x3:(List Int)):A0 (All.galoisref01_limbs.l0 (k+1) x0 x3 x4) (C1m (A5T k) (b7 k) x0 x4 x3):=by rw [All.galoisref01_limbs.l0];unfold C1m;(try simp only [A5J,A5T,b7,All.integer_zero.f,All.exact_stepAt.f,All.S24.f0,All.S24.f1,All.rd_T24,All.z24]);exact BR
theorem E4Y (k:Nat) (x0:ByteArray) (x4:Int) (x5:Int) (x6:Int) (x3:(List Int)):A0 (All.galoisref01_limbs.l1 (k+1) x0 x3 x4 x5 x6) (C5x (A5J k) (A5T k) x0 x4 x5 x6 x3):=by rw [All.galoisref01_limbs.l1];unfold C5x;(try simp only [A5J,A5T,b7,All.integer_zero.f,All.exact_stepAt.f,All.S24.f0,All.S24.f1,All.rd_T24,All.z24]);exact BR
theorem E7b (k:Nat) (x0:ByteArray):A0 (K1 k x0) (C4W (A5J k) x0):=by
 show A0 (All.galoisref01_limbs.f k x0) _
 unfold All.galoisref01_limbs.f;unfold C4W;(try simp only [A5J,A5T,b7,All.integer_zero.f,All.exact_stepAt.f,All.S24.f0,All.S24.f1,All.rd_T24,All.z24]);exact BR
theorem C0A (k:Nat):B5 Tryz.prog (B4k (K1 k)):=
 B6 B7 HM A6d (es:=fun k=>B8P (b7 k)) (fun k=>fc ⟨D7y k,fz⟩) Tryz.func229 2 (by kernel_rfl) (fun s=>rfl) (fun k=>B8F (A5J k) (A5T k)) (fc ⟨fun s=>rfl,fc ⟨fun s=>rfl,fz⟩⟩) (fun k s0=> .cons (by kernel_rfl) (by kernel_rfl) (fun s r h=>(E3K (A5J k) (A5T k) (b7 k) s0 s).trans (E8i k s.1.1 s.1.2.1 s.2.1 r h)) (.cons (by kernel_rfl) (by kernel_rfl) (fun s r h=>(E4N (A5J k) (A5T k) (b7 k) s0 s).trans (E4Y k s.1.1 s.1.2.1 s.1.2.2.1 s.1.2.2.2.1 s.2.1 r h)) (.nil))) (F:=fun k s=>K1 k s.1.1) (fun k s r h=>(F7l (A5J k) (A5T k) (b7 k) s).trans (E7b k s.1.1 r h)) k
theorem E3C (k:Nat):B5 Tryz.prog (D2c (z6 k)):=
 B6 B7 HM B2B (es:=fun k=>C4n (b7 k)) (fun k=>fc ⟨D7y k,fz⟩) Tryz.func230 1 (by kernel_rfl) (fun s=>rfl) (fun k=>C6D (A7H k)) (fc ⟨fun s=>by show ite _ _ _=none;split<;>rfl,fz⟩) (fun k s0=> .cons (by kernel_rfl) (by kernel_rfl) (fun s r h=>(E8h (A7H k) (b7 k) s0 s).trans (E7k k s.1.1 s.1.2.1 s.1.2.2.1 s.2.1 r h)) (.nil)) (F:=fun k s=>z6 k s.1.1 s.2.1) (fun k s r h=>(F8p (A7H k) (b7 k) s).trans (F6Z k s.1.1 s.2.1 r h)) k
noncomputable abbrev A2M (k:Nat) (x7:(List Int)) (x8:Int) (x11:Int) (x9:(List Int)) (x10:(List Int)):Option W3:=All.galoisref01_DivMod.l0 k x7 x8 x9 x10 x11
noncomputable abbrev A2F (k:Nat) (x7:(List Int)) (x8:Int) (x11:Int) (x9:(List Int)) (x10:(List Int)):Option W3:=All.galoisref01_DivMod.l1 k x7 x8 x9 x10 x11
noncomputable abbrev A2U (k:Nat) (x7:(List Int)) (x8:Int) (x11:Int) (x12:Int) (x13:Int) (x14:Int) (x9:(List Int)) (x10:(List Int)):Option W3:=All.galoisref01_DivMod.l2 k x7 x8 x9 x10 x11 x12 x13 x14
theorem E5x (k:Nat) (x7:(List Int)) (x8:Int) (x11:Int) (x9:(List Int)) (x10:(List Int)):A0 (All.galoisref01_DivMod.l0 (k+1) x7 x8 x9 x10 x11) (D0g (A2F k) (I8 k) x7 x8 x11 x9 x10):=by rw [All.galoisref01_DivMod.l0];unfold D0g;(try simp only [A2M,A2F,A2U,I8,K1,z6,All.integer_zero.f,All.exact_stepAt.f,All.S24.f0,All.S24.f1,All.rd_T24,All.z24]);exact BR
theorem F5z (k:Nat) (x7:(List Int)) (x8:Int) (x11:Int) (x9:(List Int)) (x10:(List Int)):A0 (All.galoisref01_DivMod.l1 (k+1) x7 x8 x9 x10 x11) (C9z (A2M k) (A2U k) (z6 k) x7 x8 x11 x9 x10):=by rw [All.galoisref01_DivMod.l1];unfold C9z;(try simp only [A2M,A2F,A2U,I8,K1,z6,All.integer_zero.f,All.exact_stepAt.f,All.S24.f0,All.S24.f1,All.rd_T24,All.z24]);exact BR
theorem F1b (k:Nat) (x7:(List Int)) (x8:Int) (x11:Int) (x12:Int) (x13:Int) (x14:Int) (x9:(List Int)) (x10:(List Int)):A0 (All.galoisref01_DivMod.l2 (k+1) x7 x8 x9 x10 x11 x12 x13 x14) (C8k (A2F k) (A2U k) x7 x8 x11 x12 x13 x14 x9 x10):=by rw [All.galoisref01_DivMod.l2];unfold C8k;(try simp only [A2M,A2F,A2U,I8,K1,z6,All.integer_zero.f,All.exact_stepAt.f,All.S24.f0,All.S24.f1,All.rd_T24,All.z24]);exact BR
theorem F3A (k:Nat) (x0:ByteArray) (x1:ByteArray):A0 (A0C k x0 x1) (C1T (A2M k) (K1 k) x0 x1):=by
 show A0 (All.galoisref01_DivMod.f k x0 x1) _
 unfold All.galoisref01_DivMod.f;unfold C1T;(try simp only [A2M,A2F,A2U,I8,K1,z6,All.integer_zero.f,All.exact_stepAt.f,All.S24.f0,All.S24.f1,All.rd_T24,All.z24]);exact BR
theorem D2o (k:Nat):B5 Tryz.prog (C2t (A0C k)):=
 B6 B7 HM A3n (es:=fun k=>B4y (I8 k) (K1 k) (z6 k)) (fun k=>fc ⟨B5u k,fc ⟨C0A k,fc ⟨E3C k,fz⟩⟩⟩) Tryz.func203 3 (by kernel_rfl) (fun s=>rfl) (fun k=>B5s (A2M k) (A2F k) (A2U k)) (fc ⟨fun s=>rfl,fc ⟨fun s=>rfl,fc ⟨fun s=>rfl,fz⟩⟩⟩) (fun k s0=> .cons (by kernel_rfl) (by kernel_rfl) (fun s r h=>(F6T (A2M k) (A2F k) (A2U k) (I8 k) (K1 k) (z6 k) s0 s).trans (E5x k s.1.1 s.1.2.1 s.1.2.2.1 s.2.1 s.2.2.1 r h)) (.cons (by kernel_rfl) (by kernel_rfl) (fun s r h=>(F5W (A2M k) (A2F k) (A2U k) (I8 k) (K1 k) (z6 k) s0 s).trans (F5z k s.1.1 s.1.2.1 s.1.2.2.1 s.2.1 s.2.2.1 r h)) (.cons (by kernel_rfl) (by kernel_rfl) (fun s r h=>(E8y (A2M k) (A2F k) (A2U k) (I8 k) (K1 k) (z6 k) s0 s).trans (F1b k s.1.1 s.1.2.1 s.1.2.2.1 s.1.2.2.2.1 s.1.2.2.2.2.1 s.1.2.2.2.2.2.1 s.2.1 s.2.2.1 r h)) (.nil)))) (F:=fun k s=>A0C k s.1.1 s.1.2.1) (fun k s r h=>(F0F (A2M k) (A2F k) (A2U k) (I8 k) (K1 k) (z6 k) s).trans (F3A k s.1.1 s.1.2.1 r h)) k
noncomputable abbrev A8M (k:Nat) (x0:ByteArray) (x1:ByteArray):Option A0x:=All.galoisref01_Gcd.l0 k x0 x1
theorem E2G (k:Nat) (x0:ByteArray) (x1:ByteArray):A0 (All.galoisref01_Gcd.l0 (k+1) x0 x1) (C1j (A8M k) (A0C k) x0 x1):=by rw [All.galoisref01_Gcd.l0];unfold C1j;(try simp only [A8M,A0C,All.integer_zero.f,All.exact_stepAt.f,All.S24.f0,All.S24.f1,All.rd_T24,All.z24]);exact BR
theorem E3V (k:Nat) (x0:ByteArray) (x1:ByteArray):A0 (Y9 k x0 x1) (C2v (A8M k) x0 x1):=by
 show A0 (All.galoisref01_Gcd.f k x0 x1) _
 unfold All.galoisref01_Gcd.f;unfold C2v;(try simp only [A8M,A0C,All.integer_zero.f,All.exact_stepAt.f,All.S24.f0,All.S24.f1,All.rd_T24,All.z24]);exact BR
theorem D3h (k:Nat):B5 Tryz.prog (C9f (Y9 k)):=
 B6 B7 HM B0h (es:=fun k=>C5f (A0C k)) (fun k=>fc ⟨D2o k,fz⟩) Tryz.func180 1 (by kernel_rfl) (fun s=>rfl) (fun k=>C8d (A8M k)) (fc ⟨fun s=>rfl,fz⟩) (fun k s0=> .cons (by kernel_rfl) (by kernel_rfl) (fun s r h=>(E5o (A8M k) (A0C k) s0 s).trans (E2G k s.1.1 s.1.2.1 r h)) (.nil)) (F:=fun k s=>Y9 k s.1.1 s.1.2.1) (fun k s r h=>(F5n (A8M k) (A0C k) s).trans (E3V k s.1.1 s.1.2.1 r h)) k
theorem E4B (k:Nat) (x0:TQ):A0 (M0 k x0) (A5C (A1M k) (i5 k) (c9 k) (Y9 k) x0):=A0.refl _
theorem D7O (k:Nat):B5 Tryz.prog (C2U (M0 k)):=
 B6 B7 HM B6L (es:=fun k=>D7q (A1M k) (i5 k) (c9 k) (Y9 k)) (fun k=>fc ⟨E3e k,fc ⟨D7r k,fc ⟨E5B k,fc ⟨D3h k,fz⟩⟩⟩⟩) Tryz.func135 0 (by kernel_rfl) (fun s=>rfl) (fun k=>[]) (fz) (fun k s0=> .nil) (F:=fun k s=>M0 k s.1.1) (fun k s r h=>(E4a (A1M k) (i5 k) (c9 k) (Y9 k) s).trans (E4B k s.1.1 r h)) k
theorem F1l (k:Nat) (x0:TP) (x9:TP) (x10:Int) (x11:Int):A0 (A1I (k+1) x0 x9 x10 x11) (A7T (A1I k) (S1 k) (M0 k) x0 x9 x10 x11):=by rw [A1I];exact A0.refl _
theorem b69 (k:Nat) (x0:TP):A0 (T6 k x0) (B69 (A1I k) x0):=A0.refl _
theorem C3b (k:Nat):B5 Tryz.prog (C1D (T6 k)):=
 B6 B7 HM D69 (es:=fun k=>C7d (S1 k) (M0 k)) (fun k=>fc ⟨D3Z k,fc ⟨D7O k,fz⟩⟩) Tryz.func69 1 (by kernel_rfl) (fun s=>rfl) (fun k=>C7c (A1I k)) (fc ⟨fun s=>rfl,fz⟩) (fun k s0=> .cons (by kernel_rfl) (by kernel_rfl) (fun s r h=>(F1F (A1I k) (S1 k) (M0 k) s0 s).trans (F1l k s.1.1 s.1.2.1 s.1.2.2.1 s.1.2.2.2.1 r h)) (.nil)) (F:=fun k s=>T6 k s.1.1) (fun k s r h=>(e69 (A1I k) (S1 k) (M0 k) s).trans (b69 k s.1.1 r h)) k
theorem E3F (k:Nat) (x0:Int):A0 (A9U k x0) (C6o (I8 k) x0):=by
 show A0 (All.galoisref01_Of.f k x0) _
 unfold All.galoisref01_Of.f;unfold C6o;(try simp only [I8,All.integer_zero.f,All.exact_stepAt.f,All.S24.f0,All.S24.f1,All.rd_T24,All.z24]);exact BR
theorem F3n (k:Nat):B5 Tryz.prog (D7S (A9U k)):=
 B6 B7 HM B7N (es:=fun k=>D9L (I8 k)) (fun k=>fc ⟨B5u k,fz⟩) Tryz.func183 0 (by kernel_rfl) (fun s=>rfl) (fun k=>[]) (fz) (fun k s0=> .nil) (F:=fun k s=>A9U k s.1.1) (fun k s r h=>(E1Y (I8 k) s).trans (E3F k s.1.1 r h)) k
theorem E9H (k:Nat) (x0:Int):A0 (A7N k x0) (C8J (A9U k) x0):=by
 show A0 (All.galoisref02_FromInt.f k x0) _
 unfold All.galoisref02_FromInt.f;unfold C8J;(try simp only [A9U,All.integer_zero.f,All.exact_stepAt.f,All.S24.f0,All.S24.f1,All.rd_T24,All.z24]);exact BR
theorem F1x (k:Nat):B5 Tryz.prog (D9d (A7N k)):=
 B6 B7 HM B8J (es:=fun k=>D9O (A9U k)) (fun k=>fc ⟨F3n k,fz⟩) Tryz.func141 0 (by kernel_rfl) (fun s=>rfl) (fun k=>[]) (fz) (fun k s0=> .nil) (F:=fun k s=>A7N k s.1.1) (fun k s r h=>(E6I (A9U k) s).trans (E9H k s.1.1 r h)) k
theorem b81 (k:Nat) (x0:Int):A0 (E9 k x0) (B81 (A7N k) x0):=A0.refl _
theorem A9E (k:Nat):B5 Tryz.prog (A5y (E9 k)):=
 B6 B7 HM D81 (es:=fun k=>D5g (A7N k)) (fun k=>fc ⟨F1x k,fz⟩) Tryz.func81 0 (by kernel_rfl) (fun s=>rfl) (fun k=>[]) (fz) (fun k s0=> .nil) (F:=fun k s=>E9 k s.1.1) (fun k s r h=>(e81 (A7N k) s).trans (b81 k s.1.1 r h)) k
theorem b80 (k:Nat) (x0:TP):A0 (Z7 k x0) (B80 (E9 k) x0):=A0.refl _
theorem D9F (k:Nat):B5 Tryz.prog (C3A (Z7 k)):=
 B6 B7 HM D80 (es:=fun k=>D4A (E9 k)) (fun k=>fc ⟨A9E k,fz⟩) Tryz.func80 0 (by kernel_rfl) (fun s=>rfl) (fun k=>[]) (fz) (fun k s0=> .nil) (F:=fun k s=>Z7 k s.1.1) (fun k s r h=>(e80 (E9 k) s).trans (b80 k s.1.1 r h)) k
theorem b82 (k:Nat) (x0:TQ):A0 (A2u k x0) (B82 x0):=A0.refl _
theorem F7y (k:Nat):B5 Tryz.prog (D7G (A2u k)):=
 B6 B7 HM D82 (es:=fun k=>[]) (fun k=>fz) Tryz.func82 0 (by kernel_rfl) (fun s=>rfl) (fun k=>[]) (fz) (fun k s0=> .nil) (F:=fun k s=>A2u k s.1.1) (fun k s r h=>(e82 s).trans (b82 k s.1.1 r h)) k
theorem F4s (k:Nat) (x24:TP) (x25:Int) (x26:Int) (x1:TP):A0 (A0w (k+1) x24 x25 x26 x1) (A8b (A0w k) (R0 k) (A2u k) x24 x25 x26 x1):=by rw [A0w];exact A0.refl _
theorem b13 (k:Nat) (x0:TP):A0 (I5 k x0) (B13 (A0w k) (T6 k) (Z7 k) (E9 k) x0):=A0.refl _
theorem B1f (k:Nat):B5 Tryz.prog (A7g (I5 k)):=
 B6 B7 HM D13 (es:=fun k=>C7g (R0 k) (T6 k) (Z7 k) (E9 k) (A2u k)) (fun k=>fc ⟨C5h k,fc ⟨C3b k,fc ⟨D9F k,fc ⟨A9E k,fc ⟨F7y k,fz⟩⟩⟩⟩⟩) Tryz.func13 1 (by kernel_rfl) (fun s=>rfl) (fun k=>C5D (A0w k)) (fc ⟨fun s=>rfl,fz⟩) (fun k s0=> .cons (by kernel_rfl) (by kernel_rfl) (fun s r h=>(E0Z (A0w k) (R0 k) (T6 k) (Z7 k) (E9 k) (A2u k) s0 s).trans (F4s k s.1.1 s.1.2.1 s.1.2.2.1 s.2.1 r h)) (.nil)) (F:=fun k s=>I5 k s.1.1) (fun k s r h=>(e13 (A0w k) (R0 k) (T6 k) (Z7 k) (E9 k) (A2u k) s).trans (b13 k s.1.1 r h)) k
theorem b55 (k:Nat) (x0:TP) (x1:TP):A0 (T2 k x0 x1) (B55 (I5 k) (R0 k) (T6 k) x0 x1):=A0.refl _
theorem C1Z (k:Nat):B5 Tryz.prog (B6a (T2 k)):=
 B6 B7 HM D55 (es:=fun k=>D7g (I5 k) (R0 k) (T6 k)) (fun k=>fc ⟨B1f k,fc ⟨C5h k,fc ⟨C3b k,fz⟩⟩⟩) Tryz.func55 0 (by kernel_rfl) (fun s=>rfl) (fun k=>[]) (fz) (fun k s0=> .nil) (F:=fun k s=>T2 k s.1.1 s.1.2.1) (fun k s r h=>(e55 (I5 k) (R0 k) (T6 k) s).trans (b55 k s.1.1 s.1.2.1 r h)) k
theorem E8A (k:Nat) (x1:TF) (x16:TF) (x17:Int) (x18:Int) (x2:TP):A0 (A0i (k+1) x1 x16 x17 x18 x2) (A8y (A0i k) (T2 k) x1 x16 x17 x18 x2):=by rw [A0i];exact A0.refl _
theorem b14 (k:Nat) (x0:TP) (x1:TF):A0 (S4 k x0 x1) (B14 (A0i k) (I5 k) x0 x1):=A0.refl _
theorem C2a (k:Nat):B5 Tryz.prog (B6u (S4 k)):=
 B6 B7 HM D14 (es:=fun k=>C5t (I5 k) (T2 k)) (fun k=>fc ⟨B1f k,fc ⟨C1Z k,fz⟩⟩) Tryz.func14 1 (by kernel_rfl) (fun s=>rfl) (fun k=>C3i (A0i k)) (fc ⟨fun s=>rfl,fz⟩) (fun k s0=> .cons (by kernel_rfl) (by kernel_rfl) (fun s r h=>(F2c (A0i k) (I5 k) (T2 k) s0 s).trans (E8A k s.1.1 s.1.2.1 s.1.2.2.1 s.1.2.2.2.1 s.2.1 r h)) (.nil)) (F:=fun k s=>S4 k s.1.1 s.1.2.1) (fun k s r h=>(e14 (A0i k) (I5 k) (T2 k) s).trans (b14 k s.1.1 s.1.2.1 r h)) k
theorem F4X (k:Nat) (x17:TP) (x18:Int) (x19:Int):A0 (A0p (k+1) x17 x18 x19) (A8m (A0p k) x17 x18 x19):=by rw [A0p];exact A0.refl _
theorem b70 (k:Nat) (x0:TP) (x1:Int):A0 (A5f k x0 x1) (B70 (A0p k) (T6 k) x0 x1):=A0.refl _
theorem E6r (k:Nat):B5 Tryz.prog (D5N (A5f k)):=
 B6 B7 HM D70 (es:=fun k=>D1J (T6 k)) (fun k=>fc ⟨C3b k,fz⟩) Tryz.func70 1 (by kernel_rfl) (fun s=>rfl) (fun k=>C7Q (A0p k)) (fc ⟨fun s=>rfl,fz⟩) (fun k s0=> .cons (by kernel_rfl) (by kernel_rfl) (fun s r h=>(E0I (A0p k) (T6 k) s0 s).trans (F4X k s.1.1 s.1.2.1 s.1.2.2.1 r h)) (.nil)) (F:=fun k s=>A5f k s.1.1 s.1.2.1) (fun k s r h=>(e70 (A0p k) (T6 k) s).trans (b70 k s.1.1 s.1.2.1 r h)) k
theorem b49 (k:Nat) (x0:TP) (x1:TP):A0 (o6 k x0 x1) (B49 (I5 k) (R0 k) (A5f k) x0 x1):=A0.refl _
theorem D2D (k:Nat):B5 Tryz.prog (C8f (o6 k)):=
 B6 B7 HM D49 (es:=fun k=>D5m (I5 k) (R0 k) (A5f k)) (fun k=>fc ⟨B1f k,fc ⟨C5h k,fc ⟨E6r k,fz⟩⟩⟩) Tryz.func49 0 (by kernel_rfl) (fun s=>rfl) (fun k=>[]) (fz) (fun k s0=> .nil) (F:=fun k s=>o6 k s.1.1 s.1.2.1) (fun k s r h=>(e49 (I5 k) (R0 k) (A5f k) s).trans (b49 k s.1.1 s.1.2.1 r h)) k
theorem F0r (k:Nat) (x19:TP) (x20:Int) (x21:Int):A0 (A0s (k+1) x19 x20 x21) (A9R (A0s k) x19 x20 x21):=by rw [A0s];exact A0.refl _
theorem b79 (k:Nat) (x0:TP) (x1:Int):A0 (i9 k x0 x1) (B79 (A0s k) (I5 k) x0 x1):=A0.refl _
theorem D8t (k:Nat):B5 Tryz.prog (C1g (i9 k)):=
 B6 B7 HM D79 (es:=fun k=>C4E (I5 k)) (fun k=>fc ⟨B1f k,fz⟩) Tryz.func79 1 (by kernel_rfl) (fun s=>rfl) (fun k=>C7S (A0s k)) (fc ⟨fun s=>rfl,fz⟩) (fun k s0=> .cons (by kernel_rfl) (by kernel_rfl) (fun s r h=>(F7f (A0s k) (I5 k) s0 s).trans (F0r k s.1.1 s.1.2.1 s.1.2.2.1 r h)) (.nil)) (F:=fun k s=>i9 k s.1.1 s.1.2.1) (fun k s r h=>(e79 (A0s k) (I5 k) s).trans (b79 k s.1.1 s.1.2.1 r h)) k
theorem E5u (k:Nat) (x28:TF) (x29:Int) (x30:Int) (x4:TP):A0 (A1D (k+1) x28 x29 x30 x4) (A9P (A1D k) (o6 k) x28 x29 x30 x4):=by rw [A1D];exact A0.refl _
theorem b26 (k:Nat) (x0:TP) (x1:TF) (x2:Int) (x3:Int):A0 (A2d k x0 x1 x2 x3) (B26 (A1D k) (S4 k) (i9 k) x0 x1 x2 x3):=A0.refl _
theorem F8N (k:Nat):B5 Tryz.prog (D7A (A2d k)):=
 B6 B7 HM D26 (es:=fun k=>C5U (S4 k) (o6 k) (i9 k)) (fun k=>fc ⟨C2a k,fc ⟨D2D k,fc ⟨D8t k,fz⟩⟩⟩) Tryz.func26 1 (by kernel_rfl) (fun s=>rfl) (fun k=>C6i (A1D k)) (fc ⟨fun s=>rfl,fz⟩) (fun k s0=> .cons (by kernel_rfl) (by kernel_rfl) (fun s r h=>(E3y (A1D k) (S4 k) (o6 k) (i9 k) s0 s).trans (E5u k s.1.1 s.1.2.1 s.1.2.2.1 s.2.1 r h)) (.nil)) (F:=fun k s=>A2d k s.1.1 s.1.2.1 s.1.2.2.1 s.1.2.2.2.1) (fun k s r h=>(e26 (A1D k) (S4 k) (o6 k) (i9 k) s).trans (b26 k s.1.1 s.1.2.1 s.1.2.2.1 s.1.2.2.2.1 r h)) k
theorem F3e (k:Nat) (x10:(List TF)) (x11:Int) (x12:Int) (x2:TP):A0 (A0y (k+1) x10 x11 x12 x2) (A9p (A0y k) (S4 k) (A2d k) (i9 k) x10 x11 x12 x2):=by rw [A0y];exact A0.refl _
theorem b12 (k:Nat) (x0:TP) (x1:(List TF)):A0 (A5c k x0 x1) (B12 (A0y k) (I5 k) x0 x1):=A0.refl _
theorem F2H (k:Nat):B5 Tryz.prog (D3b (A5c k)):=
 B6 B7 HM D12 (es:=fun k=>C9L (I5 k) (S4 k) (A2d k) (i9 k)) (fun k=>fc ⟨B1f k,fc ⟨C2a k,fc ⟨F8N k,fc ⟨D8t k,fz⟩⟩⟩⟩) Tryz.func12 1 (by kernel_rfl) (fun s=>rfl) (fun k=>C2j (A0y k)) (fc ⟨fun s=>rfl,fz⟩) (fun k s0=> .cons (by kernel_rfl) (by kernel_rfl) (fun s r h=>(E6J (A0y k) (I5 k) (S4 k) (A2d k) (i9 k) s0 s).trans (F3e k s.1.1 s.1.2.1 s.1.2.2.1 s.2.1 r h)) (.nil)) (F:=fun k s=>A5c k s.1.1 s.1.2.1) (fun k s r h=>(e12 (A0y k) (I5 k) (S4 k) (A2d k) (i9 k) s).trans (b12 k s.1.1 s.1.2.1 r h)) k
theorem F4Q (k:Nat) (x0:TI):A0 (T4 k x0) (A4H x0):=A0.refl _
theorem C9i (k:Nat):B5 Tryz.prog (B9C (T4 k)):=
 B6 B7 HM B9a (es:=fun k=>[]) (fun k=>fz) Tryz.func149 0 (by kernel_rfl) (fun s=>rfl) (fun k=>[]) (fz) (fun k s0=> .nil) (F:=fun k s=>T4 k s.1.1) (fun k s r h=>(F5g s).trans (F4Q k s.1.1 r h)) k
noncomputable abbrev A7V (k:Nat) (x0:(List Int)) (x3:Int):Option A2g:=All.exact_trim.l0 k x0 x3
theorem F3H (k:Nat) (x0:(List Int)) (x3:Int):A0 (All.exact_trim.l0 (k+1) x0 x3) (C8r (A7V k) x0 x3):=by rw [All.exact_trim.l0];unfold C8r;(try simp only [A7V,All.integer_zero.f,All.exact_stepAt.f,All.S24.f0,All.S24.f1,All.rd_T24,All.z24]);exact BR
theorem E2j (k:Nat) (x0:(List Int)):A0 (A0Y k x0) (C6B (A7V k) x0):=by
 show A0 (All.exact_trim.f k x0) _
 unfold All.exact_trim.f;unfold C6B;(try simp only [A7V,All.integer_zero.f,All.exact_stepAt.f,All.S24.f0,All.S24.f1,All.rd_T24,All.z24]);exact BR
theorem E8T (k:Nat):B5 Tryz.prog (D9E (A0Y k)):=
 B6 B7 HM B0a (es:=fun k=>[]) (fun k=>fz) Tryz.func245 1 (by kernel_rfl) (fun s=>rfl) (fun k=>D0b (A7V k)) (fc ⟨fun s=>rfl,fz⟩) (fun k s0=> .cons (by kernel_rfl) (by kernel_rfl) (fun s r h=>(E7K (A7V k) s0 s).trans (F3H k s.1.1 s.1.2.1 r h)) (.nil)) (F:=fun k s=>A0Y k s.1.1) (fun k s r h=>(E3f (A7V k) s).trans (E2j k s.1.1 r h)) k
noncomputable abbrev A2R (k:Nat) (x17:(List Int)) (x18:Int) (x19:Int) (x3:(List Int)):Option L8:=All.exact_pack.l0 k x3 x17 x18 x19
noncomputable abbrev A2s (k:Nat) (x4:Int) (x5:Int) (x17:(List Int)) (x18:Int) (x19:Int) (x24:Int) (x3:(List Int)):Option L8:=All.exact_pack.l1 k x3 x4 x5 x17 x18 x19 x24
noncomputable abbrev A2l (k:Nat) (x7:Int) (x3:(List Int)):Option L8:=All.exact_pack.l2 k x3 x7
theorem E0X (k:Nat) (x17:(List Int)) (x18:Int) (x19:Int) (x3:(List Int)):A0 (All.exact_pack.l0 (k+1) x3 x17 x18 x19) (C4s (A2s k) (A2l k) x17 x18 x19 x3):=by rw [All.exact_pack.l0];unfold C4s;(try simp only [A2R,A2s,A2l,A0Y,All.integer_zero.f,All.exact_stepAt.f,All.S24.f0,All.S24.f1,All.rd_T24,All.z24]);exact BR
theorem F7T (k:Nat) (x4:Int) (x5:Int) (x17:(List Int)) (x18:Int) (x19:Int) (x24:Int) (x3:(List Int)):A0 (All.exact_pack.l1 (k+1) x3 x4 x5 x17 x18 x19 x24) (C3s (A2R k) (A2s k) x4 x5 x17 x18 x19 x24 x3):=by rw [All.exact_pack.l1];unfold C3s;(try simp only [A2R,A2s,A2l,A0Y,All.integer_zero.f,All.exact_stepAt.f,All.S24.f0,All.S24.f1,All.rd_T24,All.z24]);exact BR
theorem F5K (k:Nat) (x7:Int) (x3:(List Int)):A0 (All.exact_pack.l2 (k+1) x3 x7) (C5p (A2l k) x7 x3):=by rw [All.exact_pack.l2];unfold C5p;(try simp only [A2R,A2s,A2l,A0Y,All.integer_zero.f,All.exact_stepAt.f,All.S24.f0,All.S24.f1,All.rd_T24,All.z24]);exact BR
theorem F4A (k:Nat) (x0:(List Int)):A0 (H1 k x0) (C6l (A2R k) (A0Y k) x0):=by
 show A0 (All.exact_pack.f k x0) _
 unfold All.exact_pack.f;unfold C6l;(try simp only [A2R,A2s,A2l,A0Y,All.integer_zero.f,All.exact_stepAt.f,All.S24.f0,All.S24.f1,All.rd_T24,All.z24]);exact BR
theorem A8S (k:Nat):B5 Tryz.prog (A7I (H1 k)):=
 B6 B7 HM A3p (es:=fun k=>B4z (A0Y k)) (fun k=>fc ⟨E8T k,fz⟩) Tryz.func223 3 (by kernel_rfl) (fun s=>rfl) (fun k=>B3a (A2R k) (A2s k) (A2l k)) (fc ⟨fun s=>rfl,fc ⟨fun s=>rfl,fc ⟨fun s=>rfl,fz⟩⟩⟩) (fun k s0=> .cons (by kernel_rfl) (by kernel_rfl) (fun s r h=>(F4n (A2R k) (A2s k) (A2l k) (A0Y k) s0 s).trans (E0X k s.1.1 s.1.2.1 s.1.2.2.1 s.2.1 r h)) (.cons (by kernel_rfl) (by kernel_rfl) (fun s r h=>(E7Z (A2R k) (A2s k) (A2l k) (A0Y k) s0 s).trans (F7T k s.1.1 s.1.2.1 s.1.2.2.1 s.1.2.2.2.1 s.1.2.2.2.2.1 s.1.2.2.2.2.2.1 s.2.1 r h)) (.cons (by kernel_rfl) (by kernel_rfl) (fun s r h=>(E0L (A2R k) (A2s k) (A2l k) (A0Y k) s0 s).trans (F5K k s.1.1 s.2.1 r h)) (.nil)))) (F:=fun k s=>H1 k s.1.1) (fun k s r h=>(F4R (A2R k) (A2s k) (A2l k) (A0Y k) s).trans (F4A k s.1.1 r h)) k
theorem E4L (k:Nat) (x0:Int):A0 (A8P k x0) (C7q (H1 k) x0):=by
 show A0 (All.exact_NatOf.f k x0) _
 unfold All.exact_NatOf.f;unfold C7q;(try simp only [H1,All.integer_zero.f,All.exact_stepAt.f,All.S24.f0,All.S24.f1,All.rd_T24,All.z24]);exact BR
theorem F6A (k:Nat):B5 Tryz.prog (D9C (A8P k)):=
 B6 B7 HM B8f (es:=fun k=>D9l (H1 k)) (fun k=>fc ⟨A8S k,fz⟩) Tryz.func193 0 (by kernel_rfl) (fun s=>rfl) (fun k=>[]) (fz) (fun k s0=> .nil) (F:=fun k s=>A8P k s.1.1) (fun k s r h=>(E5e (H1 k) s).trans (E4L k s.1.1 r h)) k
theorem E7N (k:Nat) (x0:Int):A0 (A5o k x0) (C1X (A8P k) x0):=by
 show A0 (All.exact_IntOf.f k x0) _
 unfold All.exact_IntOf.f;unfold C1X;(try simp only [A8P,All.integer_zero.f,All.exact_stepAt.f,All.S24.f0,All.S24.f1,All.rd_T24,All.z24]);exact BR
theorem E5J (k:Nat):B5 Tryz.prog (D9p (A5o k)):=
 B6 B7 HM C1E (es:=fun k=>D7p (A8P k)) (fun k=>fc ⟨F6A k,fz⟩) Tryz.func150 0 (by kernel_rfl) (fun s=>rfl) (fun k=>[]) (fz) (fun k s0=> .nil) (F:=fun k s=>A5o k s.1.1) (fun k s r h=>(F6z (A8P k) s).trans (E7N k s.1.1 r h)) k
theorem b89 (k:Nat) (x0:Int):A0 (E2 k x0) (B89 (T4 k) (A5o k) x0):=A0.refl _
theorem A9b (k:Nat):B5 Tryz.prog (A6Y (E2 k)):=
 B6 B7 HM D89 (es:=fun k=>D5Z (T4 k) (A5o k)) (fun k=>fc ⟨C9i k,fc ⟨E5J k,fz⟩⟩) Tryz.func89 0 (by kernel_rfl) (fun s=>rfl) (fun k=>[]) (fz) (fun k s0=> .nil) (F:=fun k s=>E2 k s.1.1) (fun k s r h=>(e89 (T4 k) (A5o k) s).trans (b89 k s.1.1 r h)) k
theorem F4v (k:Nat) (x0:TQ):A0 (J3 k x0) (C9v x0):=A0.refl _
theorem B8g (k:Nat):B5 Tryz.prog (B4x (J3 k)):=
 B6 B7 HM C1L (es:=fun k=>[]) (fun k=>fz) Tryz.func152 0 (by kernel_rfl) (fun s=>rfl) (fun k=>[]) (fz) (fun k s0=> .nil) (F:=fun k s=>J3 k s.1.1) (fun k s r h=>(F7u s).trans (F4v k s.1.1 r h)) k
theorem F6B (k:Nat) (x0:ByteArray):A0 (Y4 k x0) (C2h x0):=by
 show A0 (All.natural_Check.f k x0) _
 unfold All.natural_Check.f
 unfold C2h
 (try simp only [All.integer_zero.f,All.exact_stepAt.f,All.S24.f0,All.S24.f1,All.rd_T24,All.z24])
 (try simp only [F1,List.take_append_drop,List.drop_length,List.append_nil,Int.zero_sub,Int.toNat_natCast,Int.reduceToNat,Int.zero_add,List.take_zero,List.nil_append,List.append_assoc,List.length_set,W8,List.take_left,I0,bne,H2,decide_not,H3,if_true,if_false,Bool.false_eq_true,m4,t7,List.drop_zero,List.take_length,H7,F6,l7,C4,ite_not,Bool.and_eq_true,Bool.or_eq_true,Bool.not_eq_true',G9,Bool.not_eq_false',beq_iff_eq,decide_eq_true_eq,H4,G8,G6,ne_eq,H5,List.toList_toArray])
 repeat' first
 | (with_reducible refine A0.trans ((All.natural_Check.mono_l k) _ _) ?_;rw [All.natural_Check.j0];(try simp only [F1,if_true,if_false,decide_eq_true_eq,Bool.false_eq_true,decide_not,ite_not,bne,H2,beq_iff_eq,Bool.not_eq_true',G9,H5,List.toList_toArray,G8,G6,Bool.and_eq_true,Bool.or_eq_true,H4,H3,H7,All.integer_zero.f,F6,Int.toNat_natCast,Int.reduceToNat,Int.zero_sub,I0]))
 | (with_reducible exact A0.none _)
 | (with_reducible exact A0.refl _)
 | (with_reducible refine A0.posR (by with_reducible assumption) ?_)
 | (with_reducible refine A0.negR (by with_reducible assumption) ?_)
 | (with_reducible refine A0.bindR (by with_reducible assumption) ?_)
 | (with_reducible refine A0.posL (by with_reducible assumption) ?_)
 | (with_reducible refine A0.negL (by with_reducible assumption) ?_)
 | (with_reducible refine A0.iteL (fun _=>?_) (fun _=>?_))
 | (with_reducible refine A0.bindK (by with_reducible assumption) ?_)
 | (with_reducible refine A0.bindL (fun _ _=>?_))
 | (refine A0.posR (by first|decide|exact Int.le_refl _|omega|assumption) ?_)
 | (refine A0.negR (by first|decide|omega) ?_)
theorem D3W (k:Nat):B5 Tryz.prog (C3c (Y4 k)):=
 B6 B7 HM B8x (es:=fun k=>[]) (fun k=>fz) Tryz.func214 0 (by kernel_rfl) (fun s=>rfl) (fun k=>[]) (fz) (fun k s0=> .nil) (F:=fun k s=>Y4 k s.1.1) (fun k s r h=>(E4y s).trans (F6B k s.1.1 r h)) k
theorem E8K (k:Nat):A0 (A7c k) (C4P):=by
 show A0 (All.integer_zero.f) _
 unfold All.integer_zero.f;unfold C4P;(try simp only [All.integer_zero.f,All.exact_stepAt.f,All.S24.f0,All.S24.f1,All.rd_T24,All.z24]);exact BR
theorem F1L (k:Nat):B5 Tryz.prog (D3n (A7c k)):=
 B6 B7 HM B9g (es:=fun k=>[]) (fun k=>fz) Tryz.func243 0 (by kernel_rfl) (fun s=>rfl) (fun k=>[]) (fz) (fun k s0=> .nil) (F:=fun k s=>A7c k) (fun k s r h=>(F2u s).trans (E8K k r h)) k
theorem F0k (k:Nat) (x0:TI):A0 (s7 k x0) (D0f (Y4 k) (A7c k) x0):=by
 show A0 (All.integer_Check.f k x0.1 x0.2) _
 unfold All.integer_Check.f;unfold D0f;(try simp only [Y4,A7c,All.integer_zero.f,All.exact_stepAt.f,All.S24.f0,All.S24.f1,All.rd_T24,All.z24]);exact BR
theorem E4u (k:Nat):B5 Tryz.prog (D3F (s7 k)):=
 B6 B7 HM B9c (es:=fun k=>D3k (Y4 k) (A7c k)) (fun k=>fc ⟨D3W k,fc ⟨F1L k,fz⟩⟩) Tryz.func213 0 (by kernel_rfl) (fun s=>rfl) (fun k=>[]) (fz) (fun k s0=> .nil) (F:=fun k s=>s7 k s.1.1) (fun k s r h=>(F3K (Y4 k) (A7c k) s).trans (F0k k s.1.1 r h)) k
theorem D0z (k:Nat):B5 Tryz.prog (B7O (M5 k)):=
 B6 B7 HM B1B (es:=fun k=>[]) (fun k=>fz) Tryz.func245 1 (by kernel_rfl) (fun s=>rfl) (fun k=>C8M (A7x k)) (fc ⟨fun s=>rfl,fz⟩) (fun k s0=> .cons (by kernel_rfl) (by kernel_rfl) (fun s r h=>(F5i (A7x k) s0 s).trans (E5p k s.1.1 s.2.1 r h)) (.nil)) (F:=fun k s=>M5 k s.2.1) (fun k s r h=>(F0v (A7x k) s).trans (E7g k s.2.1 r h)) k
noncomputable abbrev A8z (k:Nat) (x0:ByteArray) (x12:Int) (x13:Int) (x3:(List Int)):Option U9:=All.exact_words.l0 k x0 x3 x12 x13
theorem F0f (k:Nat) (x0:ByteArray) (x12:Int) (x13:Int) (x3:(List Int)):A0 (All.exact_words.l0 (k+1) x0 x3 x12 x13) (C2W (A8z k) (M5 k) x0 x12 x13 x3):=by rw [All.exact_words.l0];unfold C2W;(try simp only [A8z,M5,All.integer_zero.f,All.exact_stepAt.f,All.S24.f0,All.S24.f1,All.rd_T24,All.z24]);exact BR
theorem E1D (k:Nat) (x0:ByteArray):A0 (J5 k x0) (D0l (A8z k) x0):=by
 show A0 (All.exact_words.f k x0) _
 unfold All.exact_words.f;unfold D0l;(try simp only [A8z,M5,All.integer_zero.f,All.exact_stepAt.f,All.S24.f0,All.S24.f1,All.rd_T24,All.z24]);exact BR
theorem B2e (k:Nat):B5 Tryz.prog (A7Q (J5 k)):=
 B6 B7 HM B0p (es:=fun k=>C9E (M5 k)) (fun k=>fc ⟨D0z k,fz⟩) Tryz.func225 1 (by kernel_rfl) (fun s=>rfl) (fun k=>C3S (A8z k)) (fc ⟨fun s=>rfl,fz⟩) (fun k s0=> .cons (by kernel_rfl) (by kernel_rfl) (fun s r h=>(F7I (A8z k) (M5 k) s0 s).trans (F0f k s.1.1 s.1.2.1 s.1.2.2.1 s.2.1 r h)) (.nil)) (F:=fun k s=>J5 k s.1.1) (fun k s r h=>(F0q (A8z k) (M5 k) s).trans (E1D k s.1.1 r h)) k
noncomputable abbrev A8C (k:Nat) (x0:(List Int)) (x1:(List Int)) (x5:Int):Option A3M:=All.exact_compareWords.l0 k x0 x1 x5
theorem E0l (k:Nat) (x0:(List Int)) (x1:(List Int)) (x5:Int):A0 (All.exact_compareWords.l0 (k+1) x0 x1 x5) (C6q (A8C k) x0 x1 x5):=by rw [All.exact_compareWords.l0];unfold C6q;(try simp only [A8C,All.integer_zero.f,All.exact_stepAt.f,All.S24.f0,All.S24.f1,All.rd_T24,All.z24]);exact BR
theorem E0m (k:Nat) (x0:(List Int)) (x1:(List Int)):A0 (A0Z k x0 x1) (C6V (A8C k) x0 x1):=by
 show A0 (All.exact_compareWords.f k x0 x1) _
 unfold All.exact_compareWords.f;unfold C6V;(try simp only [A8C,All.integer_zero.f,All.exact_stepAt.f,All.S24.f0,All.S24.f1,All.rd_T24,All.z24]);exact BR
theorem E1B (k:Nat):B5 Tryz.prog (D8D (A0Z k)):=
 B6 B7 HM B1F (es:=fun k=>[]) (fun k=>fz) Tryz.func276 1 (by kernel_rfl) (fun s=>rfl) (fun k=>C7G (A8C k)) (fc ⟨fun s=>rfl,fz⟩) (fun k s0=> .cons (by kernel_rfl) (by kernel_rfl) (fun s r h=>(F7t (A8C k) s0 s).trans (E0l k s.1.1 s.1.2.1 s.1.2.2.1 r h)) (.nil)) (F:=fun k s=>A0Z k s.1.1 s.1.2.1) (fun k s r h=>(E7E (A8C k) s).trans (E0m k s.1.1 s.1.2.1 r h)) k
theorem F6Y (k:Nat) (x0:Int):A0 (V4 k x0) (C9l (B5w k) x0):=by
 show A0 (All.bits_LeadingZeros64.f x0) _
 unfold All.bits_LeadingZeros64.f;unfold C9l;(try simp only [B5w,All.integer_zero.f,All.exact_stepAt.f,All.S24.f0,All.S24.f1,All.rd_T24,All.z24]);exact BR
theorem D5q (k:Nat):B5 Tryz.prog (C3l (V4 k)):=
 B6 B7 HM B7H (es:=fun k=>D4N (B5w k)) (fun k=>fc ⟨F2j k,fz⟩) Tryz.func278 0 (by kernel_rfl) (fun s=>rfl) (fun k=>[]) (fz) (fun k s0=> .nil) (F:=fun k s=>V4 k s.1.1) (fun k s r h=>(F2S (B5w k) s).trans (F6Y k s.1.1 r h)) k
noncomputable abbrev A4p (k:Nat) (x2:Int) (x8:Int) (x9:Int) (x10:Int) (x11:Int) (x13:Int) (x14:Int) (x15:Int) (x16:Int):Option j7:=All.bits_Div64.l0 k x2 x8 x9 x10 x11 x13 x14 x15 x16
noncomputable abbrev A5d (k:Nat) (x2:Int) (x8:Int) (x9:Int) (x10:Int) (x14:Int) (x15:Int) (x16:Int) (x17:Int) (x18:Int):Option j7:=All.bits_Div64.l1 k x2 x8 x9 x10 x14 x15 x16 x17 x18
theorem F8c (k:Nat) (x2:Int) (x8:Int) (x9:Int) (x10:Int) (x11:Int) (x13:Int) (x14:Int) (x15:Int) (x16:Int):A0 (All.bits_Div64.l0 (k+1) x2 x8 x9 x10 x11 x13 x14 x15 x16) (C9H (A4p k) (A5d k) x2 x8 x9 x10 x11 x13 x14 x15 x16):=by
 rw [All.bits_Div64.l0]
 unfold C9H
 (try simp only [A4p,A5d,V4,All.integer_zero.f,All.exact_stepAt.f,All.S24.f0,All.S24.f1,All.rd_T24,All.z24])
 (try simp only [F1,List.take_append_drop,List.drop_length,List.append_nil,Int.zero_sub,Int.toNat_natCast,Int.reduceToNat,Int.zero_add,List.take_zero,List.nil_append,List.append_assoc,List.length_set,W8,List.take_left,I0,bne,H2,decide_not,H3,if_true,if_false,Bool.false_eq_true,m4,t7,List.drop_zero,List.take_length,H7,F6,l7,C4,ite_not,Bool.and_eq_true,Bool.or_eq_true,Bool.not_eq_true',G9,Bool.not_eq_false',beq_iff_eq,decide_eq_true_eq,H4,G8,G6,ne_eq,H5,List.toList_toArray])
 repeat' first
 | (with_reducible refine A0.trans ((All.bits_Div64.mono_l k).2.2.2.2 _ _ _ _ _ _ _ _ _ _) ?_;rw [All.bits_Div64.j1];(try simp only [F1,if_true,if_false,decide_eq_true_eq,Bool.false_eq_true,decide_not,ite_not,bne,H2,beq_iff_eq,Bool.not_eq_true',G9,H5,List.toList_toArray,G8,G6,Bool.and_eq_true,Bool.or_eq_true,H4,H3,H7,All.integer_zero.f,F6,Int.toNat_natCast,Int.reduceToNat,Int.zero_sub,I0]))
 | (with_reducible refine A0.trans ((All.bits_Div64.mono_l k).1 _ _ _ _ _ _ _ _) ?_;rw [All.bits_Div64.j2];(try simp only [F1,if_true,if_false,decide_eq_true_eq,Bool.false_eq_true,decide_not,ite_not,bne,H2,beq_iff_eq,Bool.not_eq_true',G9,H5,List.toList_toArray,G8,G6,Bool.and_eq_true,Bool.or_eq_true,H4,H3,H7,All.integer_zero.f,F6,Int.toNat_natCast,Int.reduceToNat,Int.zero_sub,I0]))
 | (with_reducible refine A0.trans ((All.bits_Div64.mono_l k).2.2.1 _ _ _ _ _ _ _ _ _ _) ?_;rw [All.bits_Div64.j4];(try simp only [F1,if_true,if_false,decide_eq_true_eq,Bool.false_eq_true,decide_not,ite_not,bne,H2,beq_iff_eq,Bool.not_eq_true',G9,H5,List.toList_toArray,G8,G6,Bool.and_eq_true,Bool.or_eq_true,H4,H3,H7,All.integer_zero.f,F6,Int.toNat_natCast,Int.reduceToNat,Int.zero_sub,I0]))
 | (with_reducible exact A0.none _)
 | (with_reducible exact A0.refl _)
 | (with_reducible refine A0.posR (by with_reducible assumption) ?_)
 | (with_reducible refine A0.negR (by with_reducible assumption) ?_)
 | (with_reducible refine A0.bindR (by with_reducible assumption) ?_)
 | (with_reducible refine A0.posL (by with_reducible assumption) ?_)
 | (with_reducible refine A0.negL (by with_reducible assumption) ?_)
 | (with_reducible refine A0.iteL (fun _=>?_) (fun _=>?_))
 | (with_reducible refine A0.bindK (by with_reducible assumption) ?_)
 | (with_reducible refine A0.bindL (fun _ _=>?_))
 | (refine A0.posR (by first|decide|exact Int.le_refl _|omega|assumption) ?_)
 | (refine A0.negR (by first|decide|omega) ?_)
theorem F4u (k:Nat) (x2:Int) (x8:Int) (x9:Int) (x10:Int) (x14:Int) (x15:Int) (x16:Int) (x17:Int) (x18:Int):A0 (All.bits_Div64.l1 (k+1) x2 x8 x9 x10 x14 x15 x16 x17 x18) (C5c (A5d k) x2 x8 x9 x10 x14 x15 x16 x17 x18):=by
 rw [All.bits_Div64.l1]
 unfold C5c
 (try simp only [A4p,A5d,V4,All.integer_zero.f,All.exact_stepAt.f,All.S24.f0,All.S24.f1,All.rd_T24,All.z24])
 (try simp only [F1,List.take_append_drop,List.drop_length,List.append_nil,Int.zero_sub,Int.toNat_natCast,Int.reduceToNat,Int.zero_add,List.take_zero,List.nil_append,List.append_assoc,List.length_set,W8,List.take_left,I0,bne,H2,decide_not,H3,if_true,if_false,Bool.false_eq_true,m4,t7,List.drop_zero,List.take_length,H7,F6,l7,C4,ite_not,Bool.and_eq_true,Bool.or_eq_true,Bool.not_eq_true',G9,Bool.not_eq_false',beq_iff_eq,decide_eq_true_eq,H4,G8,G6,ne_eq,H5,List.toList_toArray])
 repeat' first
 | (with_reducible refine A0.trans ((All.bits_Div64.mono_l k).2.2.2.2 _ _ _ _ _ _ _ _ _ _) ?_;rw [All.bits_Div64.j1];(try simp only [F1,if_true,if_false,decide_eq_true_eq,Bool.false_eq_true,decide_not,ite_not,bne,H2,beq_iff_eq,Bool.not_eq_true',G9,H5,List.toList_toArray,G8,G6,Bool.and_eq_true,Bool.or_eq_true,H4,H3,H7,All.integer_zero.f,F6,Int.toNat_natCast,Int.reduceToNat,Int.zero_sub,I0]))
 | (with_reducible refine A0.trans ((All.bits_Div64.mono_l k).1 _ _ _ _ _ _ _ _) ?_;rw [All.bits_Div64.j2];(try simp only [F1,if_true,if_false,decide_eq_true_eq,Bool.false_eq_true,decide_not,ite_not,bne,H2,beq_iff_eq,Bool.not_eq_true',G9,H5,List.toList_toArray,G8,G6,Bool.and_eq_true,Bool.or_eq_true,H4,H3,H7,All.integer_zero.f,F6,Int.toNat_natCast,Int.reduceToNat,Int.zero_sub,I0]))
 | (with_reducible refine A0.trans ((All.bits_Div64.mono_l k).2.2.1 _ _ _ _ _ _ _ _ _ _) ?_;rw [All.bits_Div64.j4];(try simp only [F1,if_true,if_false,decide_eq_true_eq,Bool.false_eq_true,decide_not,ite_not,bne,H2,beq_iff_eq,Bool.not_eq_true',G9,H5,List.toList_toArray,G8,G6,Bool.and_eq_true,Bool.or_eq_true,H4,H3,H7,All.integer_zero.f,F6,Int.toNat_natCast,Int.reduceToNat,Int.zero_sub,I0]))
 | (with_reducible exact A0.none _)
 | (with_reducible exact A0.refl _)
 | (with_reducible refine A0.posR (by with_reducible assumption) ?_)
 | (with_reducible refine A0.negR (by with_reducible assumption) ?_)
 | (with_reducible refine A0.bindR (by with_reducible assumption) ?_)
 | (with_reducible refine A0.posL (by with_reducible assumption) ?_)
 | (with_reducible refine A0.negL (by with_reducible assumption) ?_)
 | (with_reducible refine A0.iteL (fun _=>?_) (fun _=>?_))
 | (with_reducible refine A0.bindK (by with_reducible assumption) ?_)
 | (with_reducible refine A0.bindL (fun _ _=>?_))
 | (refine A0.posR (by first|decide|exact Int.le_refl _|omega|assumption) ?_)
 | (refine A0.negR (by first|decide|omega) ?_)
theorem E1O (k:Nat) (x0:Int) (x1:Int) (x2:Int):A0 (R7 k x0 x1 x2) (C5G (A4p k) (V4 k) x0 x1 x2):=by
 show A0 (All.bits_Div64.f k x0 x1 x2) _
 unfold All.bits_Div64.f
 unfold C5G
 (try simp only [A4p,A5d,V4,All.integer_zero.f,All.exact_stepAt.f,All.S24.f0,All.S24.f1,All.rd_T24,All.z24])
 (try simp only [F1,List.take_append_drop,List.drop_length,List.append_nil,Int.zero_sub,Int.toNat_natCast,Int.reduceToNat,Int.zero_add,List.take_zero,List.nil_append,List.append_assoc,List.length_set,W8,List.take_left,I0,bne,H2,decide_not,H3,if_true,if_false,Bool.false_eq_true,m4,t7,List.drop_zero,List.take_length,H7,F6,l7,C4,ite_not,Bool.and_eq_true,Bool.or_eq_true,Bool.not_eq_true',G9,Bool.not_eq_false',beq_iff_eq,decide_eq_true_eq,H4,G8,G6,ne_eq,H5,List.toList_toArray])
 repeat' first
 | (with_reducible refine A0.trans ((All.bits_Div64.mono_l k).2.2.2.2 _ _ _ _ _ _ _ _ _ _) ?_;rw [All.bits_Div64.j1];(try simp only [F1,if_true,if_false,decide_eq_true_eq,Bool.false_eq_true,decide_not,ite_not,bne,H2,beq_iff_eq,Bool.not_eq_true',G9,H5,List.toList_toArray,G8,G6,Bool.and_eq_true,Bool.or_eq_true,H4,H3,H7,All.integer_zero.f,F6,Int.toNat_natCast,Int.reduceToNat,Int.zero_sub,I0]))
 | (with_reducible refine A0.trans ((All.bits_Div64.mono_l k).1 _ _ _ _ _ _ _ _) ?_;rw [All.bits_Div64.j2];(try simp only [F1,if_true,if_false,decide_eq_true_eq,Bool.false_eq_true,decide_not,ite_not,bne,H2,beq_iff_eq,Bool.not_eq_true',G9,H5,List.toList_toArray,G8,G6,Bool.and_eq_true,Bool.or_eq_true,H4,H3,H7,All.integer_zero.f,F6,Int.toNat_natCast,Int.reduceToNat,Int.zero_sub,I0]))
 | (with_reducible refine A0.trans ((All.bits_Div64.mono_l k).2.2.1 _ _ _ _ _ _ _ _ _ _) ?_;rw [All.bits_Div64.j4];(try simp only [F1,if_true,if_false,decide_eq_true_eq,Bool.false_eq_true,decide_not,ite_not,bne,H2,beq_iff_eq,Bool.not_eq_true',G9,H5,List.toList_toArray,G8,G6,Bool.and_eq_true,Bool.or_eq_true,H4,H3,H7,All.integer_zero.f,F6,Int.toNat_natCast,Int.reduceToNat,Int.zero_sub,I0]))
 | (with_reducible exact A0.none _)
 | (with_reducible exact A0.refl _)
 | (with_reducible refine A0.posR (by with_reducible assumption) ?_)
 | (with_reducible refine A0.negR (by with_reducible assumption) ?_)
 | (with_reducible refine A0.bindR (by with_reducible assumption) ?_)
 | (with_reducible refine A0.posL (by with_reducible assumption) ?_)
 | (with_reducible refine A0.negL (by with_reducible assumption) ?_)
 | (with_reducible refine A0.iteL (fun _=>?_) (fun _=>?_))
 | (with_reducible refine A0.bindK (by with_reducible assumption) ?_)
 | (with_reducible refine A0.bindL (fun _ _=>?_))
 | (refine A0.posR (by first|decide|exact Int.le_refl _|omega|assumption) ?_)
 | (refine A0.negR (by first|decide|omega) ?_)
theorem D4w (k:Nat):B5 Tryz.prog (C2N (R7 k)):=
 B6 B7 HM A6f (es:=fun k=>B8W (V4 k)) (fun k=>fc ⟨D5q k,fz⟩) Tryz.func277 2 (by kernel_rfl) (fun s=>rfl) (fun k=>B7I (A4p k) (A5d k)) (fc ⟨fun s=>rfl,fc ⟨fun s=>rfl,fz⟩⟩) (fun k s0=> .cons (by kernel_rfl) (by kernel_rfl) (fun s r h=>(F4a (A4p k) (A5d k) (V4 k) s0 s).trans (F8c k s.1.1 s.1.2.1 s.1.2.2.1 s.1.2.2.2.1 s.1.2.2.2.2.1 s.1.2.2.2.2.2.1 s.1.2.2.2.2.2.2.1 s.1.2.2.2.2.2.2.2.1 s.1.2.2.2.2.2.2.2.2.1 r h)) (.cons (by kernel_rfl) (by kernel_rfl) (fun s r h=>(E7P (A4p k) (A5d k) (V4 k) s0 s).trans (F4u k s.1.1 s.1.2.1 s.1.2.2.1 s.1.2.2.2.1 s.1.2.2.2.2.1 s.1.2.2.2.2.2.1 s.1.2.2.2.2.2.2.1 s.1.2.2.2.2.2.2.2.1 s.1.2.2.2.2.2.2.2.2.1 r h)) (.nil))) (F:=fun k s=>R7 k s.1.1 s.1.2.1 s.1.2.2.1) (fun k s r h=>(E4J (A4p k) (A5d k) (V4 k) s).trans (E1O k s.1.1 s.1.2.1 s.1.2.2.1 r h)) k
noncomputable abbrev A9i (k:Nat) (x1:Int) (x12:(List Int)) (x13:Int) (x14:Int) (x5:(List Int)):Option A2y:=All.exact_shiftUp.l0 k x1 x5 x12 x13 x14
theorem E4Z (k:Nat) (x1:Int) (x12:(List Int)) (x13:Int) (x14:Int) (x5:(List Int)):A0 (All.exact_shiftUp.l0 (k+1) x1 x5 x12 x13 x14) (C9M (A9i k) x1 x12 x13 x14 x5):=by rw [All.exact_shiftUp.l0];unfold C9M;(try simp only [A9i,All.integer_zero.f,All.exact_stepAt.f,All.S24.f0,All.S24.f1,All.rd_T24,All.z24]);exact BR
theorem E3i (k:Nat) (x0:(List Int)) (x1:Int):A0 (A1H k x0 x1) (C7m (A9i k) x0 x1):=by
 show A0 (All.exact_shiftUp.f k x0 x1) _
 unfold All.exact_shiftUp.f;unfold C7m;(try simp only [A9i,All.integer_zero.f,All.exact_stepAt.f,All.S24.f0,All.S24.f1,All.rd_T24,All.z24]);exact BR
theorem F7z (k:Nat):B5 Tryz.prog (D4y (A1H k)):=
 B6 B7 HM B0Z (es:=fun k=>[]) (fun k=>fz) Tryz.func279 1 (by kernel_rfl) (fun s=>rfl) (fun k=>C8q (A9i k)) (fc ⟨fun s=>rfl,fz⟩) (fun k s0=> .cons (by kernel_rfl) (by kernel_rfl) (fun s r h=>(F5G (A9i k) s0 s).trans (E4Z k s.1.1 s.1.2.1 s.1.2.2.1 s.1.2.2.2.1 s.2.1 r h)) (.nil)) (F:=fun k s=>A1H k s.1.1 s.1.2.1) (fun k s r h=>(E6B (A9i k) s).trans (E3i k s.1.1 s.1.2.1 r h)) k
theorem F2r (k:Nat) (x0:Int) (x1:Int):A0 (S7 k x0 x1) (C1u x0 x1):=by
 show A0 (All.bits_Mul64.f x0 x1) _
 unfold All.bits_Mul64.f;unfold C1u;(try simp only [All.integer_zero.f,All.exact_stepAt.f,All.S24.f0,All.S24.f1,All.rd_T24,All.z24]);exact BR
theorem E0F (k:Nat):B5 Tryz.prog (C4T (S7 k)):=
 B6 B7 HM B7n (es:=fun k=>[]) (fun k=>fz) Tryz.func246 0 (by kernel_rfl) (fun s=>rfl) (fun k=>[]) (fz) (fun k s0=> .nil) (F:=fun k s=>S7 k s.1.1 s.1.2.1) (fun k s r h=>(E3b s).trans (F2r k s.1.1 s.1.2.1 r h)) k
noncomputable abbrev A3R (k:Nat) (x1:(List Int)) (x5:Int) (x6:Int) (x7:Int) (x8:Int) (y0:(List Int)):Option X4:=All.exact_step.l0 k y0 x1 x5 x6 x7 x8
noncomputable abbrev A2D (k:Nat) (x1:(List Int)) (x5:Int) (x6:Int) (x11:Int) (x12:Int) (x104:Int) (x105:Int) (y0:(List Int)):Option X4:=All.exact_step.l1 k y0 x1 x5 x6 x11 x12 x104 x105
noncomputable abbrev A3K (k:Nat) (x1:(List Int)) (x5:Int) (x6:Int) (x17:Int) (x156:Int) (x157:Int) (y0:(List Int)):Option X4:=All.exact_step.l2 k y0 x1 x5 x6 x17 x156 x157
end Go.Proofs.YtijohnkgomcdbaaGreatV
