/- Part of the proof of the statement TopSplitting: lemmas on the model's steps, Lean functions that say what the program's functions compute, and proofs that the calls do just that. No hypothesis is added. -/
import Derived.Test.YtfllafbphddooaaKTopSplitting2
set_option linter.all false
set_option maxRecDepth 100000
namespace Go.Proofs.YtfllafbphddooaaV
open Go Go.RowKit YtfllafbphddooaaE YtfllafbphddooaaW.PrintWords YtfllafbphddooaaW.PrintLast YtfllafbphddooaaW.PrintMore
section
variable (c24:Int→Option R24) (c40:Int→Option R40)
noncomputable def B26 (x0:Int):Option R26:=if x0=0 then(some false)else(if x0=1 then(some false)else((c24 x0).bind fun r1=>(if r1=1 then((c40 x0).bind fun r2=>(some (decide (r2.2=1))))else((c24 x0).bind fun r3=>(if r3≠0 then(some false)else(if(4:Int)=0 then(none)else((c40 (wrap64 (Int.tdiv x0 4))).bind fun r4=>(if r4.2=1 then((c24 (wrap64 (Int.tdiv x0 4))).bind fun r5=>(some (decide (r5>1))))else(some false)))))))))
theorem e26 (s:ask26.T):evFn E0 (orcOf (fes26 c24 c40)) an26 (loOf (les26)) 41 cd26 Try.f26.results.toList rm26 (ask26.mk' s) (decW rsk26 dec26)=B26 c24 c40 s.1.1:=by kernel_rfl
end
noncomputable def an27:Ann:=⟨[],[],[]⟩
noncomputable def cd27:Code:=(Try.f27.body).getD .skip
noncomputable def rm27:List RM:=[.d (.it .i64)]
noncomputable def les27:List (LoE R27):=[]
noncomputable def fes27 (c35:Int→Option R35):List FE:=[(fe35 c35)]
section
variable (c35:Int→Option R35)
noncomputable def B27 (x0:Int):Option R27:=(c35 x0).bind fun r1=>(if r1.2≠0 then(some 7)else(cnd ((!r1.1)) (some 7) (some 0)))
theorem e27 (s:ask27.T):evFn E0 (orcOf (fes27 c35)) an27 (loOf (les27)) 16 cd27 Try.f27.results.toList rm27 (ask27.mk' s) (decW rsk27 dec27)=B27 c35 s.1.1:=by kernel_rfl
end
noncomputable def an41:Ann:=⟨[(5,[(0, .any),(1, .any),(6, .any)]),(7,[(0, .any),(1, .any),(6, .any)])],[],[]⟩
noncomputable def cd41:Code:=(Try.f41.body).getD .skip
noncomputable def p41:List Pos:=posns an41 [] cd41
noncomputable def rm41:List RM:=[.d (.it .i64), .d (.it .i64)]
noncomputable def rk41 (s0:SbT ask41.bl):KX R41:=retK E0 Try.f41.results.toList rm41 (mkB ask41.bl s0) (decW rsk41 dec41)
noncomputable def k41l0:Sk:=⟨[(0, .d (.it .i64)),(1, .d (.it .i64)),(6, .d (.it .i64))],[]⟩
noncomputable def k41l1:Sk:=⟨[(0, .d (.it .i64)),(1, .d (.it .i64)),(6, .d (.it .i64))],[]⟩
noncomputable def les41 (gl0:Int→Int→Int→Option R41) (gl1:Int→Int→Int→Option R41):List (LoE R41):=[⟨5,k41l0,fun s=>gl0 s.1.1 s.1.2.1 s.1.2.2.1⟩,⟨7,k41l1,fun s=>gl1 s.1.1 s.1.2.1 s.1.2.2.1⟩]
noncomputable def fes41 (c20:(List Int)→Option R20) (c49:Int→Int→Option R49):List FE:=[(fe20 c20),(fe49 c49)]
section
variable (gl0:Int→Int→Int→Option R41) (gl1:Int→Int→Int→Option R41) (c20:(List Int)→Option R20) (c49:Int→Int→Option R49)
noncomputable def B41l0 (x0:Int) (x1:Int) (x6:Int):Option R41:=if x0>0 then(gl1 x0 x1 x6)else(if x1>1 then(some (0,0))else(some (x6,0)))
theorem e41l0 (s0:SbT ask41.bl) (s:k41l0.T):evPos E0 (orcOf (fes41 c20 c49)) 53 an41 (loOf (les41 gl0 gl1)) (rk41 s0) (p41.getD 0 ⟨0,[], .skip⟩) (k41l0.mk' s)=B41l0 gl1 s.1.1 s.1.2.1 s.1.2.2.1:=by kernel_rfl
noncomputable def B41l1 (x0:Int) (x1:Int) (x6:Int):Option R41:=if(2:Int)=0 then(none)else(if Int.tmod x0 2=0 then(if(2:Int)=0 then(none)else(if(8:Int)=0 then(none)else(if Int.tmod x1 8=3 then(gl1 (wrap64 (Int.tdiv x0 2)) x1 (wrap64 (0-x6)))else(if(8:Int)=0 then(none)else(if Int.tmod x1 8=5 then(gl1 (wrap64 (Int.tdiv x0 2)) x1 (wrap64 (0-x6)))else(gl1 (wrap64 (Int.tdiv x0 2)) x1 x6))))))else(if(4:Int)=0 then(none)else(if Int.tmod x0 4=3 then(if(4:Int)=0 then(none)else(if Int.tmod x1 4=3 then(if x0=0 then(none)else(gl0 (Int.tmod x1 x0) x0 (wrap64 (0-x6))))else(if x0=0 then(none)else(gl0 (Int.tmod x1 x0) x0 x6))))else(if x0=0 then(none)else(gl0 (Int.tmod x1 x0) x0 x6)))))
theorem e41l1 (s0:SbT ask41.bl) (s:k41l1.T):evPos E0 (orcOf (fes41 c20 c49)) 53 an41 (loOf (les41 gl0 gl1)) (rk41 s0) (p41.getD 1 ⟨0,[], .skip⟩) (k41l1.mk' s)=B41l1 gl0 gl1 s.1.1 s.1.2.1 s.1.2.2.1:=by kernel_rfl
noncomputable def B41 (x0:Int) (x1:Int):Option R41:=(c20 ([x1]:List Int)).bind fun r1=>(cnd (r1) (some (0,3)) (if(2:Int)=0 then(none)else(if Int.tmod x1 2=0 then(some (0,3))else((c49 x0 x1).bind fun r2=>(gl0 r2 x1 1)))))
theorem e41 (s:ask41.T):evFn E0 (orcOf (fes41 c20 c49)) an41 (loOf (les41 gl0 gl1)) 53 cd41 Try.f41.results.toList rm41 (ask41.mk' s) (decW rsk41 dec41)=B41 gl0 c20 c49 s.1.1 s.1.2.1:=by kernel_rfl
end
noncomputable def an28:Ann:=⟨[(10,[(0, .any),(1, .any),(5, .any)])],[],[]⟩
noncomputable def cd28:Code:=(Try.f28.body).getD .skip
noncomputable def p28:List Pos:=posns an28 [] cd28
noncomputable def rm28:List RM:=[.d (.it .i64)]
noncomputable def rk28 (s0:SbT ask28.bl):KX R28:=retK E0 Try.f28.results.toList rm28 (mkB ask28.bl s0) (decW rsk28 dec28)
noncomputable def k28l0:Sk:=⟨[(0, .d (.it .i64)),(1, .d (.it .i64)),(5, .d (.it .i64))],[]⟩
noncomputable def les28 (gl0:Int→Int→Int→Option R28):List (LoE R28):=[⟨10,k28l0,fun s=>gl0 s.1.1 s.1.2.1 s.1.2.2.1⟩]
noncomputable def fes28 (c41:Int→Int→Option R41):List FE:=[(fe41 c41)]
section
variable (gl0:Int→Int→Int→Option R28) (c41:Int→Int→Option R41)
noncomputable def B28l0 (x0:Int) (x1:Int) (x5:Int):Option R28:=if(2:Int)=0 then(none)else(if Int.tmod x1 2=0 then(if(2:Int)=0 then(none)else(if Go.bits .and .i64 x0 7=1 then(gl0 x0 (wrap64 (Int.tdiv x1 2)) x5)else(if Go.bits .and .i64 x0 7=5 then(gl0 x0 (wrap64 (Int.tdiv x1 2)) (wrap64 (0-x5)))else(some 0))))else((c41 x0 x1).bind fun r1=>(some (wrap64 (x5*r1.1)))))
theorem e28l0 (s0:SbT ask28.bl) (s:k28l0.T):evPos E0 (orcOf (fes28 c41)) 40 an28 (loOf (les28 gl0)) (rk28 s0) (p28.getD 0 ⟨0,[], .skip⟩) (k28l0.mk' s)=B28l0 gl0 c41 s.1.1 s.1.2.1 s.1.2.2.1:=by kernel_rfl
noncomputable def B28 (x0:Int) (x1:Int):Option R28:=if x1=0 then(if x0=1 then(some 1)else(some 0))else(if x1<0 then(if x0<0 then(gl0 x0 (wrap64 (0-x1)) (-1))else(gl0 x0 (wrap64 (0-x1)) 1))else(gl0 x0 x1 1))
theorem e28 (s:ask28.T):evFn E0 (orcOf (fes28 c41)) an28 (loOf (les28 gl0)) 40 cd28 Try.f28.results.toList rm28 (ask28.mk' s) (decW rsk28 dec28)=B28 gl0 s.1.1 s.1.2.1:=by kernel_rfl
end
noncomputable def an11:Ann:=⟨[],[],[]⟩
noncomputable def cd11:Code:=(Try.f11.body).getD .skip
noncomputable def rm11:List RM:=[.d (.it .i64), .d (.it .i64)]
noncomputable def les11:List (LoE R11):=[]
noncomputable def fes11 (c25:(List Int)→Option R25) (c26:Int→Option R26) (c27:Int→Option R27) (c28:Int→Int→Option R28):List FE:=[(fe25 c25),(fe26 c26),(fe27 c27),(fe28 c28)]
section
variable (c25:(List Int)→Option R25) (c26:Int→Option R26) (c27:Int→Option R27) (c28:Int→Int→Option R28)
noncomputable def B11 (x0:Int) (x1:Int):Option R11:=(c25 ([x0,x1]:List Int)).bind fun r1=>(if r1=0 then((c26 x0).bind fun r2=>(cnd ((!r2)) (some (0,3)) (if r1=0 then((c27 x1).bind fun r3=>(if r3≠0 then(some (0,r3))else((c28 x0 x1).bind fun r4=>(some (r4,0)))))else(if r1≠0 then(some (0,r1))else((c28 x0 x1).bind fun r5=>(some (r5,0)))))))else(if r1=0 then((c27 x1).bind fun r6=>(if r6≠0 then(some (0,r6))else((c28 x0 x1).bind fun r7=>(some (r7,0)))))else(if r1≠0 then(some (0,r1))else((c28 x0 x1).bind fun r8=>(some (r8,0))))))
theorem e11 (s:ask11.T):evFn E0 (orcOf (fes11 c25 c26 c27 c28)) an11 (loOf (les11)) 28 cd11 Try.f11.results.toList rm11 (ask11.mk' s) (decW rsk11 dec11)=B11 c25 c26 c27 c28 s.1.1 s.1.2.1:=by kernel_rfl
end
noncomputable def an3:Ann:=⟨[],[],[]⟩
noncomputable def cd3:Code:=(Try.f3.body).getD .skip
noncomputable def p3:List Pos:=posns an3 [] cd3
noncomputable def rm3:List RM:=[.d .bo]
noncomputable def les3:List (LoE R3):=[]
noncomputable def fes3 (c4:Option R4) (c5:Int→Option R5) (c6:Int→Int→Option R6) (c7:Int→Option R7) (c8:Int→Int→Option R8) (c9:Int→Int→Option R9) (c10:Int→Option R10) (c11:Int→Int→Option R11):List FE:=[(fe4 c4),(fe5 c5),(fe6 c6),(fe7 c7),(fe8 c8),(fe9 c9),(fe10 c10),(fe11 c11)]
section
variable (c4:Option R4) (c5:Int→Option R5) (c6:Int→Int→Option R6) (c7:Int→Option R7) (c8:Int→Int→Option R8) (c9:Int→Int→Option R9) (c10:Int→Option R10) (c11:Int→Int→Option R11)
noncomputable def B3 (x0:Int) (x1:Int):Option R3:=(c4).bind fun r1=>(cnd ((!r1)) (some false) ((c5 x0).bind fun r2=>((c5 x1).bind fun r3=>(if r2=r3 then(some true)else((c6 r3 r2).bind fun r4=>((c7 r2).bind fun r5=>((c8 r5.1 r3).bind fun r6=>((c9 r2 r3).bind fun r7=>((c6 r2 r3).bind fun r8=>((c10 r5.1).bind fun r9=>((c11 r5.1 r3).bind fun r10=>(if r4.2=0 then(if r5.2=0 then(if r6.2=0 then(if r7.2=0 then(if r8.2=0 then(if r9.2=0 then(if r10.2=0 then(if r4.1=r6.1 then(if wrap64 (r4.1*r8.1)=r7.1 then(if r9.1=r5.1 then(some (decide (r10.1=r4.1)))else(some false))else(some false))else(some false))else(some false))else(some false))else(some false))else(some false))else(some false))else(some false))else(some false)))))))))))))
theorem e3 (s:ask3.T):evFn E0 (orcOf (fes3 c4 c5 c6 c7 c8 c9 c10 c11)) an3 (loOf (les3)) 118 cd3 Try.f3.results.toList rm3 (ask3.mk' s) (decW rsk3 dec3)=B3 c4 c5 c6 c7 c8 c9 c10 c11 s.1.1 s.1.2.1:=by kernel_rfl
end
end Go.Proofs.YtfllafbphddooaaV
namespace Go.Proofs.YtfllafbphddooaaE
open Go.RowKit Go.Proofs.YtfllafbphddooaaW.PrintWords Go.Proofs.YtfllafbphddooaaW.PrintLast Go.Proofs.YtfllafbphddooaaW.PrintMore
end Go.Proofs.YtfllafbphddooaaE
namespace Go.Proofs.Ytfllafbphddooaa
end Go.Proofs.Ytfllafbphddooaa
namespace Go.Proofs.YtfllafbphddooaaV
open Go Go.RowKit Ytfllafbphddooaa YtfllafbphddooaaE YtfllafbphddooaaW.PrintWords YtfllafbphddooaaW.PrintLast YtfllafbphddooaaW.PrintMore
end Go.Proofs.YtfllafbphddooaaV
set_option maxRecDepth 100000
namespace Go.Proofs.YtfllafbphddooaaV
open Go Go.RowKit Ytfllafbphddooaa YtfllafbphddooaaE YtfllafbphddooaaW.PrintWords YtfllafbphddooaaW.PrintLast YtfllafbphddooaaW.PrintMore
noncomputable abbrev FX17 (k:Nat):Option R17:=B17
noncomputable abbrev FX37 (k:Nat) (x0:Int):Option R37:=B37 x0
noncomputable def GX47badl0:Nat→(List Int)→Int→Int→Option R47bad
 |0,_,_,_=>none
 |k+1,x0,x7,x8=>B47badl0 (GX47badl0 k) (FX37 k) x0 x7 x8
noncomputable abbrev FX47bad (k:Nat) (x0:(List Int)):Option R47bad:=B47bad (GX47badl0 k) x0
noncomputable abbrev FX36bad (k:Nat) (x0:(List Int)):Option R36bad:=B36bad (FX47bad k) x0
noncomputable abbrev FX20 (k:Nat) (x0:(List Int)):Option R20:=B20 (FX36bad k) x0
noncomputable def GX48l0:Nat→Int→Int→Int→(List (Int×Int))→Option R48
 |0,_,_,_,_=>none
 |k+1,x0,x4,y500,y501=>B48l0 (GX48l0 k) x0 x4 y500 y501
noncomputable abbrev FX48 (k:Nat) (x0:Int) (y500:Int) (y501:(List (Int×Int))):Option R48:=B48 (GX48l0 k) x0 y500 y501
noncomputable def GX38l0:Nat→Int→Int→(List (Int×Int))→Option R38
 |0,_,_,_=>none
 |k+1,x5,x1,x3=>B38l0 (GX38l0 k) (FX48 k) x5 x1 x3
noncomputable abbrev FX38 (k:Nat) (x0:Int):Option R38:=B38 (GX38l0 k) (FX48 k) x0
noncomputable abbrev FX21 (k:Nat) (x0:Int):Option R21:=B21 (FX38 k) x0
noncomputable abbrev FX35 (k:Nat) (x0:Int):Option R35:=B35 (FX20 k) (FX21 k) x0
noncomputable def GX18l0:Nat→(List Int)→Int→Int→Option R18
 |0,_,_,_=>none
 |k+1,x7,x8,x9=>B18l0 (GX18l0 k) (FX35 k) x7 x8 x9
noncomputable abbrev FX18 (k:Nat) (x0:(List Int)):Option R18:=B18 (GX18l0 k) x0
noncomputable abbrev FX42 (k:Nat) (x0:TI):Option R42:=B42 x0
noncomputable def GX55vl0:Nat→(List Int)→Int→Option R55v
 |0,_,_=>none
 |k+1,x0,x3=>B55vl0 (GX55vl0 k) x0 x3
noncomputable abbrev FX55v (k:Nat) (x0:(List Int)):Option R55v:=B55v (GX55vl0 k) x0
mutual
noncomputable def GX53l0:Nat→(List Int)→Int→Int→(List Int)→Option R53
 |0,_,_,_,_=>none
 |k+1,x17,x18,x19,x3=>B53l0 (GX53l1 k) (GX53l2 k) x17 x18 x19 x3
noncomputable def GX53l1:Nat→Int→Int→(List Int)→Int→Int→Int→(List Int)→Option R53
 |0,_,_,_,_,_,_,_=>none
 |k+1,x4,x5,x17,x18,x19,x24,x3=>B53l1 (GX53l0 k) (GX53l1 k) x4 x5 x17 x18 x19 x24 x3
noncomputable def GX53l2:Nat→Int→(List Int)→Option R53
 |0,_,_=>none
 |k+1,x7,x3=>B53l2 (GX53l2 k) x7 x3
end
noncomputable abbrev FX53 (k:Nat) (x0:(List Int)):Option R53:=B53 (GX53l0 k) (FX55v k) x0
noncomputable abbrev FX50 (k:Nat) (x0:Int):Option R50:=B50 (FX53 k) x0
noncomputable abbrev FX43 (k:Nat) (x0:Int):Option R43:=B43 (FX50 k) x0
noncomputable abbrev FX29 (k:Nat) (x0:Int):Option R29:=B29 (FX42 k) (FX43 k) x0
noncomputable abbrev FX44 (k:Nat) (x0:TQ):Option R44:=B44 x0
noncomputable def GX30l0:Nat→(List TQ)→Int→Option R30
 |0,_,_=>none
 |k+1,x0,x3=>B30l0 (GX30l0 k) (FX44 k) x0 x3
noncomputable abbrev FX30 (k:Nat) (x0:(List TQ)):Option R30:=B30 (GX30l0 k) x0
noncomputable def GX34l0:Nat→Int→Int→Int→Int→Option R34
 |0,_,_,_,_=>none
 |k+1,x0,x1,x5,x6=>B34l0 (GX34l0 k) x0 x1 x5 x6
noncomputable abbrev FX34 (k:Nat) (x0:Int) (x1:Int):Option R34:=B34 (GX34l0 k) x0 x1
noncomputable def GX12l0:Nat→Int→Int→Int→Int→(List TQ)→Option R12
 |0,_,_,_,_,_=>none
 |k+1,x0,x6,x27,x28,x5=>B12l0 (GX12l0 k) (FX17 k) (FX29 k) (FX30 k) (FX34 k) x0 x6 x27 x28 x5
noncomputable abbrev FX12 (k:Nat) (x0:Int):Option R12:=B12 (GX12l0 k) (FX17 k) (FX18 k) (FX34 k) x0
noncomputable def GX13l0:Nat→(List TQ)→(List TQ)→Int→Int→Option R13
 |0,_,_,_,_=>none
 |k+1,x0,x1,x12,x13=>B13l0 (GX13l0 k) x0 x1 x12 x13
noncomputable abbrev FX13 (k:Nat) (x0:(List TQ)) (x1:(List TQ)):Option R13:=B13 (GX13l0 k) x0 x1
mutual
noncomputable def GX54l0:Nat→(List Int)→Int→(List Int)→Option R54
 |0,_,_,_=>none
 |k+1,x0,x4,x3=>B54l0 (GX54l1 k) x0 x4 x3
noncomputable def GX54l1:Nat→(List Int)→Int→Int→(List Int)→Option R54
 |0,_,_,_,_=>none
 |k+1,x0,x4,x5,x3=>B54l1 (GX54l0 k) (GX54l1 k) x0 x4 x5 x3
end
noncomputable abbrev FX54 (k:Nat) (x0:(List Int)):Option R54:=B54 (GX54l0 k) x0
noncomputable abbrev FX51 (k:Nat) (x0:Int):Option R51:=B51 (FX54 k) x0
noncomputable abbrev FX45 (k:Nat) (x0:Int):Option R45:=B45 (FX51 k) x0
noncomputable abbrev FX31 (k:Nat) (x0:Int):Option R31:=B31 (FX45 k) x0
noncomputable abbrev FX52 (k:Nat) (x0:TI):Option R52:=B52 x0
noncomputable abbrev FX46 (k:Nat) (x0:TQ):Option R46:=B46 (FX52 k) x0
noncomputable def GX32l0:Nat→(List TQ)→Int→Option R32
 |0,_,_=>none
 |k+1,x0,x3=>B32l0 (GX32l0 k) (FX46 k) x0 x3
noncomputable abbrev FX32 (k:Nat) (x0:(List TQ)):Option R32:=B32 (GX32l0 k) x0
noncomputable def GX14l0:Nat→(List Int)→Int→Int→(List TQ)→Option R14
 |0,_,_,_,_=>none
 |k+1,x6,x7,x8,x3=>B14l0 (GX14l0 k) (FX31 k) (FX32 k) x6 x7 x8 x3
noncomputable abbrev FX14 (k:Nat) (x0:(List Int)):Option R14:=B14 (GX14l0 k) x0
noncomputable abbrev FX4 (k:Nat):Option R4:=B4 (FX12 k) (FX13 k) (FX14 k)
noncomputable def GX15l0:Nat→Int→Int→Option R15
 |0,_,_=>none
 |k+1,x0,x3=>B15l0 (GX15l0 k) x0 x3
noncomputable abbrev FX15 (k:Nat) (x0:Int):Option R15:=B15 (GX15l0 k) x0
noncomputable def GX5l0:Nat→Int→Int→Option R5
 |0,_,_=>none
 |k+1,x3,x4=>B5l0 (GX5l0 k) (FX15 k) x3 x4
noncomputable abbrev FX5 (k:Nat) (x0:Int):Option R5:=B5 (GX5l0 k) x0
noncomputable abbrev FX33 (k:Nat) (x0:Int) (x1:Int):Option R33:=B33 x0 x1
noncomputable abbrev FX16 (k:Nat) (x0:(ByteArray×Int)) (x1:Int) (x2:Int):Option R16:=B16 (FX18 k) (FX33 k) (FX34 k) x0 x1 x2
noncomputable abbrev FX6 (k:Nat) (x0:Int) (x1:Int):Option R6:=B6 (FX16 k) (FX17 k) x0 x1
noncomputable abbrev FX19 (k:Nat) (x0:Int):Option R19:=B19 x0
noncomputable abbrev FX7 (k:Nat) (x0:Int):Option R7:=B7 (FX18 k) (FX19 k) x0
noncomputable abbrev FX49 (k:Nat) (x0:Int) (x1:Int):Option R49:=B49 x0 x1
noncomputable def GX39l0:Nat→Int→Int→Int→Int→Option R39
 |0,_,_,_,_=>none
 |k+1,x0,x1,x2,x7=>B39l0 (GX39l0 k) x0 x1 x2 x7
noncomputable abbrev FX39 (k:Nat) (x0:Int) (x1:Int) (x2:Int):Option R39:=B39 (GX39l0 k) (FX49 k) x0 x1 x2
noncomputable abbrev FX22 (k:Nat) (x0:Int) (x1:Int):Option R22:=B22 (FX39 k) x0 x1
noncomputable abbrev FX8 (k:Nat) (x0:Int) (x1:Int):Option R8:=B8 (FX20 k) (FX21 k) (FX22 k) x0 x1
noncomputable abbrev FX9 (k:Nat) (x0:Int) (x1:Int):Option R9:=B9 (FX17 k) (FX18 k) (FX34 k) x0 x1
noncomputable def GX25l0:Nat→(List Int)→Int→Int→Option R25
 |0,_,_,_=>none
 |k+1,x5,x6,x7=>B25l0 (GX25l0 k) x5 x6 x7
noncomputable abbrev FX25 (k:Nat) (x0:(List Int)):Option R25:=B25 (GX25l0 k) x0
mutual
noncomputable def GX40l0:Nat→Int→Int→Int→Option R40
 |0,_,_,_=>none
 |k+1,x0,x4,x5=>B40l0 (GX40l1 k) x0 x4 x5
noncomputable def GX40l1:Nat→Int→Int→Int→Option R40
 |0,_,_,_=>none
 |k+1,x0,x4,x5=>B40l1 (GX40l0 k) (GX40l1 k) x0 x4 x5
end
noncomputable abbrev FX40 (k:Nat) (x0:Int):Option R40:=B40 (GX40l0 k) x0
noncomputable abbrev FX23 (k:Nat) (x0:Int):Option R23:=B23 (FX25 k) (FX40 k) x0
noncomputable abbrev FX24 (k:Nat) (x0:Int):Option R24:=B24 x0
noncomputable abbrev FX10 (k:Nat) (x0:Int):Option R10:=B10 (FX23 k) (FX24 k) x0
noncomputable abbrev FX26 (k:Nat) (x0:Int):Option R26:=B26 (FX24 k) (FX40 k) x0
noncomputable abbrev FX27 (k:Nat) (x0:Int):Option R27:=B27 (FX35 k) x0
mutual
noncomputable def GX41l0:Nat→Int→Int→Int→Option R41
 |0,_,_,_=>none
 |k+1,x0,x1,x6=>B41l0 (GX41l1 k) x0 x1 x6
noncomputable def GX41l1:Nat→Int→Int→Int→Option R41
 |0,_,_,_=>none
 |k+1,x0,x1,x6=>B41l1 (GX41l0 k) (GX41l1 k) x0 x1 x6
end
noncomputable abbrev FX41 (k:Nat) (x0:Int) (x1:Int):Option R41:=B41 (GX41l0 k) (FX20 k) (FX49 k) x0 x1
noncomputable def GX28l0:Nat→Int→Int→Int→Option R28
 |0,_,_,_=>none
 |k+1,x0,x1,x5=>B28l0 (GX28l0 k) (FX41 k) x0 x1 x5
noncomputable abbrev FX28 (k:Nat) (x0:Int) (x1:Int):Option R28:=B28 (GX28l0 k) x0 x1
noncomputable abbrev FX11 (k:Nat) (x0:Int) (x1:Int):Option R11:=B11 (FX25 k) (FX26 k) (FX27 k) (FX28 k) x0 x1
end Go.Proofs.YtfllafbphddooaaV
namespace Go.Proofs.YtfllafbphddooaaV
open Go Go.RowKit Ytfllafbphddooaa YtfllafbphddooaaE YtfllafbphddooaaW.PrintWords YtfllafbphddooaaW.PrintLast YtfllafbphddooaaW.PrintMore
theorem EOK:EnvOk Try.prog E0:=⟨by kernel_rfl,by kernel_rfl,by kernel_rfl⟩
theorem HM:Try.prog.follows .mixedOrders=true:=Try.checked.mixed
end Go.Proofs.YtfllafbphddooaaV
set_option maxRecDepth 100000
namespace Go.Proofs.YtfllafbphddooaaV
open Go Go.RowKit Ytfllafbphddooaa YtfllafbphddooaaE YtfllafbphddooaaW.PrintWords YtfllafbphddooaaW.PrintLast YtfllafbphddooaaW.PrintMore
theorem b17 (k:Nat):LeO (FX17 k) (B17):=LeO.refl _
theorem ok17 (k:Nat):FeOk Try.prog (fe17 (FX17 k)):=
 fe_ok EOK HM (es:=fun k=>fes17) (fun k=>fz) (N:=2) (an:=an17) (c:=cd17) (rms:=rm17) (ask:=ask17) (rsk:=rsk17) (enc:=enc17) (dec:=dec17) (tbl:=[]) (fun s=>rfl) Try.func17 (by kernel_rfl) (by kernel_rfl) (by kernel_rfl) (fun k=>les17)
  (fz) (fun k s0=> .nil)
  (F:=fun k s=>FX17 k) (fun k s r h=>(e17 s).trans (b17 k r h)) k
theorem b37 (k:Nat) (x0:Int):LeO (FX37 k x0) (B37 x0):=LeO.refl _
theorem ok37 (k:Nat):FeOk Try.prog (fe37 (FX37 k)):=
 fe_ok EOK HM (es:=fun k=>fes37) (fun k=>fz) (N:=9) (an:=an37) (c:=cd37) (rms:=rm37) (ask:=ask37) (rsk:=rsk37) (enc:=enc37) (dec:=dec37) (tbl:=[]) (fun s=>rfl) Try.func37 (by kernel_rfl) (by kernel_rfl) (by kernel_rfl) (fun k=>les37)
  (fz) (fun k s0=> .nil)
  (F:=fun k s=>FX37 k s.1.1) (fun k s r h=>(e37 s).trans (b37 k s.1.1 r h)) k
theorem b47badl0 (k:Nat) (x0:(List Int)) (x7:Int) (x8:Int):LeO (GX47badl0 (k+1) x0 x7 x8) (B47badl0 (GX47badl0 k) (FX37 k) x0 x7 x8):=by rw [GX47badl0];exact LeO.refl _
theorem b47bad (k:Nat) (x0:(List Int)):LeO (FX47bad k x0) (B47bad (GX47badl0 k) x0):=LeO.refl _
theorem ok47bad (k:Nat):FeOk Try.prog (fe47bad (FX47bad k)):=
 fe_ok EOK HM (es:=fun k=>fes47bad (FX37 k)) (fun k=>fc ⟨ok37 k,fz⟩) (N:=19) (an:=an47bad) (c:=cd47bad) (rms:=rm47bad) (ask:=ask47bad) (rsk:=rsk47bad) (enc:=enc47bad) (dec:=dec47bad) (tbl:=[p47bad.getD 0 ⟨0,[], .skip⟩]) (fun s=>rfl) Try.func47 (by kernel_rfl) (by kernel_rfl) (by kernel_rfl) (fun k=>les47bad (GX47badl0 k))
  (fc ⟨fun s=>rfl,fz⟩) (fun k s0=> .cons (by kernel_rfl) (by kernel_rfl) (fun s r h=>(e47badl0 (GX47badl0 k) (FX37 k) s0 s).trans (b47badl0 k s.1.1 s.1.2.1 s.1.2.2.1 r h)) (.nil))
  (F:=fun k s=>FX47bad k s.1.1) (fun k s r h=>(e47bad (GX47badl0 k) (FX37 k) s).trans (b47bad k s.1.1 r h)) k
theorem b36bad (k:Nat) (x0:(List Int)):LeO (FX36bad k x0) (B36bad (FX47bad k) x0):=LeO.refl _
theorem ok36bad (k:Nat):FeOk Try.prog (fe36bad (FX36bad k)):=
 fe_ok EOK HM (es:=fun k=>fes36bad (FX47bad k)) (fun k=>fc ⟨ok47bad k,fz⟩) (N:=9) (an:=an36bad) (c:=cd36bad) (rms:=rm36bad) (ask:=ask36bad) (rsk:=rsk36bad) (enc:=enc36bad) (dec:=dec36bad) (tbl:=[]) (fun s=>rfl) Try.func36 (by kernel_rfl) (by kernel_rfl) (by kernel_rfl) (fun k=>les36bad)
  (fz) (fun k s0=> .nil)
  (F:=fun k s=>FX36bad k s.1.1) (fun k s r h=>(e36bad (FX47bad k) s).trans (b36bad k s.1.1 r h)) k
theorem b20 (k:Nat) (x0:(List Int)):LeO (FX20 k x0) (B20 (FX36bad k) x0):=LeO.refl _
theorem ok20 (k:Nat):FeOk Try.prog (fe20 (FX20 k)):=
 fe_ok EOK HM (es:=fun k=>fes20 (FX36bad k)) (fun k=>fc ⟨ok36bad k,fz⟩) (N:=5) (an:=an20) (c:=cd20) (rms:=rm20) (ask:=ask20) (rsk:=rsk20) (enc:=enc20) (dec:=dec20) (tbl:=[]) (fun s=>rfl) Try.func20 (by kernel_rfl) (by kernel_rfl) (by kernel_rfl) (fun k=>les20)
  (fz) (fun k s0=> .nil)
  (F:=fun k s=>FX20 k s.1.1) (fun k s r h=>(e20 (FX36bad k) s).trans (b20 k s.1.1 r h)) k
theorem b48l0 (k:Nat) (x0:Int) (x4:Int) (y500:Int) (y501:(List (Int×Int))):LeO (GX48l0 (k+1) x0 x4 y500 y501) (B48l0 (GX48l0 k) x0 x4 y500 y501):=by rw [GX48l0];exact LeO.refl _
theorem b48 (k:Nat) (x0:Int) (y500:Int) (y501:(List (Int×Int))):LeO (FX48 k x0 y500 y501) (B48 (GX48l0 k) x0 y500 y501):=LeO.refl _
theorem ok48 (k:Nat):FeOk Try.prog (fe48 (FX48 k)):=
 fe_ok EOK HM (es:=fun k=>fes48) (fun k=>fz) (N:=22) (an:=an48) (c:=cd48) (rms:=rm48) (ask:=ask48) (rsk:=rsk48) (enc:=enc48) (dec:=dec48) (tbl:=[p48.getD 0 ⟨0,[], .skip⟩]) (fun s=>rfl) Try.func48 (by kernel_rfl) (by kernel_rfl) (by kernel_rfl) (fun k=>les48 (GX48l0 k))
  (fc ⟨fun s=>rfl,fz⟩) (fun k s0=> .cons (by kernel_rfl) (by kernel_rfl) (fun s r h=>(e48l0 (GX48l0 k) s0 s).trans (b48l0 k s.1.1 s.1.2.1 s.2.1 s.2.2.1 r h)) (.nil))
  (F:=fun k s=>FX48 k s.1.1 s.2.1 s.2.2.1) (fun k s r h=>(e48 (GX48l0 k) s).trans (b48 k s.1.1 s.2.1 s.2.2.1 r h)) k
theorem b38l0 (k:Nat) (x5:Int) (x1:Int) (x3:(List (Int×Int))):LeO (GX38l0 (k+1) x5 x1 x3) (B38l0 (GX38l0 k) (FX48 k) x5 x1 x3):=by rw [GX38l0];exact LeO.refl _
theorem b38 (k:Nat) (x0:Int):LeO (FX38 k x0) (B38 (GX38l0 k) (FX48 k) x0):=LeO.refl _
theorem ok38 (k:Nat):FeOk Try.prog (fe38 (FX38 k)):=
 fe_ok EOK HM (es:=fun k=>fes38 (FX48 k)) (fun k=>fc ⟨ok48 k,fz⟩) (N:=25) (an:=an38) (c:=cd38) (rms:=rm38) (ask:=ask38) (rsk:=rsk38) (enc:=enc38) (dec:=dec38) (tbl:=[p38.getD 0 ⟨0,[], .skip⟩]) (fun s=>rfl) Try.func38 (by kernel_rfl) (by kernel_rfl) (by kernel_rfl) (fun k=>les38 (GX38l0 k))
  (fc ⟨fun s=>rfl,fz⟩) (fun k s0=> .cons (by kernel_rfl) (by kernel_rfl) (fun s r h=>(e38l0 (GX38l0 k) (FX48 k) s0 s).trans (b38l0 k s.1.1 s.2.1 s.2.2.1 r h)) (.nil))
  (F:=fun k s=>FX38 k s.1.1) (fun k s r h=>(e38 (GX38l0 k) (FX48 k) s).trans (b38 k s.1.1 r h)) k
theorem b21 (k:Nat) (x0:Int):LeO (FX21 k x0) (B21 (FX38 k) x0):=LeO.refl _
theorem ok21 (k:Nat):FeOk Try.prog (fe21 (FX21 k)):=
 fe_ok EOK HM (es:=fun k=>fes21 (FX38 k)) (fun k=>fc ⟨ok38 k,fz⟩) (N:=16) (an:=an21) (c:=cd21) (rms:=rm21) (ask:=ask21) (rsk:=rsk21) (enc:=enc21) (dec:=dec21) (tbl:=[]) (fun s=>rfl) Try.func21 (by kernel_rfl) (by kernel_rfl) (by kernel_rfl) (fun k=>les21)
  (fz) (fun k s0=> .nil)
  (F:=fun k s=>FX21 k s.1.1) (fun k s r h=>(e21 (FX38 k) s).trans (b21 k s.1.1 r h)) k
theorem b35 (k:Nat) (x0:Int):LeO (FX35 k x0) (B35 (FX20 k) (FX21 k) x0):=LeO.refl _
theorem ok35 (k:Nat):FeOk Try.prog (fe35 (FX35 k)):=
 fe_ok EOK HM (es:=fun k=>fes35 (FX20 k) (FX21 k)) (fun k=>fc ⟨ok20 k,fc ⟨ok21 k,fz⟩⟩) (N:=9) (an:=an35) (c:=cd35) (rms:=rm35) (ask:=ask35) (rsk:=rsk35) (enc:=enc35) (dec:=dec35) (tbl:=[]) (fun s=>rfl) Try.func35 (by kernel_rfl) (by kernel_rfl) (by kernel_rfl) (fun k=>les35)
  (fz) (fun k s0=> .nil)
  (F:=fun k s=>FX35 k s.1.1) (fun k s r h=>(e35 (FX20 k) (FX21 k) s).trans (b35 k s.1.1 r h)) k
theorem b18l0 (k:Nat) (x7:(List Int)) (x8:Int) (x9:Int):LeO (GX18l0 (k+1) x7 x8 x9) (B18l0 (GX18l0 k) (FX35 k) x7 x8 x9):=by rw [GX18l0];exact LeO.refl _
theorem b18 (k:Nat) (x0:(List Int)):LeO (FX18 k x0) (B18 (GX18l0 k) x0):=LeO.refl _
theorem ok18 (k:Nat):FeOk Try.prog (fe18 (FX18 k)):=
 fe_ok EOK HM (es:=fun k=>fes18 (FX35 k)) (fun k=>fc ⟨ok35 k,fz⟩) (N:=31) (an:=an18) (c:=cd18) (rms:=rm18) (ask:=ask18) (rsk:=rsk18) (enc:=enc18) (dec:=dec18) (tbl:=[p18.getD 0 ⟨0,[], .skip⟩]) (fun s=>rfl) Try.func18 (by kernel_rfl) (by kernel_rfl) (by kernel_rfl) (fun k=>les18 (GX18l0 k))
  (fc ⟨fun s=>rfl,fz⟩) (fun k s0=> .cons (by kernel_rfl) (by kernel_rfl) (fun s r h=>(e18l0 (GX18l0 k) (FX35 k) s0 s).trans (b18l0 k s.1.1 s.1.2.1 s.1.2.2.1 r h)) (.nil))
  (F:=fun k s=>FX18 k s.1.1) (fun k s r h=>(e18 (GX18l0 k) (FX35 k) s).trans (b18 k s.1.1 r h)) k
theorem b42 (k:Nat) (x0:TI):LeO (FX42 k x0) (B42 x0):=LeO.refl _
theorem ok42 (k:Nat):FeOk Try.prog (fe42 (FX42 k)):=
 fe_ok EOK HM (es:=fun k=>fes42) (fun k=>fz) (N:=5) (an:=an42) (c:=cd42) (rms:=rm42) (ask:=ask42) (rsk:=rsk42) (enc:=enc42) (dec:=dec42) (tbl:=[]) (fun s=>rfl) Try.func42 (by kernel_rfl) (by kernel_rfl) (by kernel_rfl) (fun k=>les42)
  (fz) (fun k s0=> .nil)
  (F:=fun k s=>FX42 k s.1.1) (fun k s r h=>(e42 s).trans (b42 k s.1.1 r h)) k
theorem b55vl0 (k:Nat) (x0:(List Int)) (x3:Int):LeO (GX55vl0 (k+1) x0 x3) (B55vl0 (GX55vl0 k) x0 x3):=by rw [GX55vl0];exact LeO.refl _
theorem b55v (k:Nat) (x0:(List Int)):LeO (FX55v k x0) (B55v (GX55vl0 k) x0):=LeO.refl _
theorem ok55v (k:Nat):FeOk Try.prog (fe55v (FX55v k)):=
 fe_ok EOK HM (es:=fun k=>fes55v) (fun k=>fz) (N:=21) (an:=an55v) (c:=cd55v) (rms:=rm55v) (ask:=ask55v) (rsk:=rsk55v) (enc:=enc55v) (dec:=dec55v) (tbl:=[p55v.getD 0 ⟨0,[], .skip⟩]) (fun s=>rfl) Try.func55 (by kernel_rfl) (by kernel_rfl) (by kernel_rfl) (fun k=>les55v (GX55vl0 k))
  (fc ⟨fun s=>rfl,fz⟩) (fun k s0=> .cons (by kernel_rfl) (by kernel_rfl) (fun s r h=>(e55vl0 (GX55vl0 k) s0 s).trans (b55vl0 k s.1.1 s.1.2.1 r h)) (.nil))
  (F:=fun k s=>FX55v k s.1.1) (fun k s r h=>(e55v (GX55vl0 k) s).trans (b55v k s.1.1 r h)) k
theorem b53l0 (k:Nat) (x17:(List Int)) (x18:Int) (x19:Int) (x3:(List Int)):LeO (GX53l0 (k+1) x17 x18 x19 x3) (B53l0 (GX53l1 k) (GX53l2 k) x17 x18 x19 x3):=by rw [GX53l0];exact LeO.refl _
theorem b53l1 (k:Nat) (x4:Int) (x5:Int) (x17:(List Int)) (x18:Int) (x19:Int) (x24:Int) (x3:(List Int)):LeO (GX53l1 (k+1) x4 x5 x17 x18 x19 x24 x3) (B53l1 (GX53l0 k) (GX53l1 k) x4 x5 x17 x18 x19 x24 x3):=by rw [GX53l1];exact LeO.refl _
theorem b53l2 (k:Nat) (x7:Int) (x3:(List Int)):LeO (GX53l2 (k+1) x7 x3) (B53l2 (GX53l2 k) x7 x3):=by rw [GX53l2];exact LeO.refl _
theorem b53 (k:Nat) (x0:(List Int)):LeO (FX53 k x0) (B53 (GX53l0 k) (FX55v k) x0):=LeO.refl _
theorem ok53 (k:Nat):FeOk Try.prog (fe53 (FX53 k)):=
 fe_ok EOK HM (es:=fun k=>fes53 (FX55v k)) (fun k=>fc ⟨ok55v k,fz⟩) (N:=55) (an:=an53) (c:=cd53) (rms:=rm53) (ask:=ask53) (rsk:=rsk53) (enc:=enc53) (dec:=dec53) (tbl:=[p53.getD 0 ⟨0,[], .skip⟩,p53.getD 1 ⟨0,[], .skip⟩,p53.getD 2 ⟨0,[], .skip⟩]) (fun s=>rfl) Try.func53 (by kernel_rfl) (by kernel_rfl) (by kernel_rfl) (fun k=>les53 (GX53l0 k) (GX53l1 k) (GX53l2 k))
  (fc ⟨fun s=>rfl,fc ⟨fun s=>rfl,fc ⟨fun s=>rfl,fz⟩⟩⟩) (fun k s0=> .cons (by kernel_rfl) (by kernel_rfl) (fun s r h=>(e53l0 (GX53l0 k) (GX53l1 k) (GX53l2 k) (FX55v k) s0 s).trans (b53l0 k s.1.1 s.1.2.1 s.1.2.2.1 s.2.1 r h)) (.cons (by kernel_rfl) (by kernel_rfl) (fun s r h=>(e53l1 (GX53l0 k) (GX53l1 k) (GX53l2 k) (FX55v k) s0 s).trans (b53l1 k s.1.1 s.1.2.1 s.1.2.2.1 s.1.2.2.2.1 s.1.2.2.2.2.1 s.1.2.2.2.2.2.1 s.2.1 r h)) (.cons (by kernel_rfl) (by kernel_rfl) (fun s r h=>(e53l2 (GX53l0 k) (GX53l1 k) (GX53l2 k) (FX55v k) s0 s).trans (b53l2 k s.1.1 s.2.1 r h)) (.nil))))
  (F:=fun k s=>FX53 k s.1.1) (fun k s r h=>(e53 (GX53l0 k) (GX53l1 k) (GX53l2 k) (FX55v k) s).trans (b53 k s.1.1 r h)) k
theorem b50 (k:Nat) (x0:Int):LeO (FX50 k x0) (B50 (FX53 k) x0):=LeO.refl _
theorem ok50 (k:Nat):FeOk Try.prog (fe50 (FX50 k)):=
 fe_ok EOK HM (es:=fun k=>fes50 (FX53 k)) (fun k=>fc ⟨ok53 k,fz⟩) (N:=6) (an:=an50) (c:=cd50) (rms:=rm50) (ask:=ask50) (rsk:=rsk50) (enc:=enc50) (dec:=dec50) (tbl:=[]) (fun s=>rfl) Try.func50 (by kernel_rfl) (by kernel_rfl) (by kernel_rfl) (fun k=>les50)
  (fz) (fun k s0=> .nil)
  (F:=fun k s=>FX50 k s.1.1) (fun k s r h=>(e50 (FX53 k) s).trans (b50 k s.1.1 r h)) k
theorem b43 (k:Nat) (x0:Int):LeO (FX43 k x0) (B43 (FX50 k) x0):=LeO.refl _
theorem ok43 (k:Nat):FeOk Try.prog (fe43 (FX43 k)):=
 fe_ok EOK HM (es:=fun k=>fes43 (FX50 k)) (fun k=>fc ⟨ok50 k,fz⟩) (N:=14) (an:=an43) (c:=cd43) (rms:=rm43) (ask:=ask43) (rsk:=rsk43) (enc:=enc43) (dec:=dec43) (tbl:=[]) (fun s=>rfl) Try.func43 (by kernel_rfl) (by kernel_rfl) (by kernel_rfl) (fun k=>les43)
  (fz) (fun k s0=> .nil)
  (F:=fun k s=>FX43 k s.1.1) (fun k s r h=>(e43 (FX50 k) s).trans (b43 k s.1.1 r h)) k
theorem b29 (k:Nat) (x0:Int):LeO (FX29 k x0) (B29 (FX42 k) (FX43 k) x0):=LeO.refl _
theorem ok29 (k:Nat):FeOk Try.prog (fe29 (FX29 k)):=
 fe_ok EOK HM (es:=fun k=>fes29 (FX42 k) (FX43 k)) (fun k=>fc ⟨ok42 k,fc ⟨ok43 k,fz⟩⟩) (N:=6) (an:=an29) (c:=cd29) (rms:=rm29) (ask:=ask29) (rsk:=rsk29) (enc:=enc29) (dec:=dec29) (tbl:=[]) (fun s=>rfl) Try.func29 (by kernel_rfl) (by kernel_rfl) (by kernel_rfl) (fun k=>les29)
  (fz) (fun k s0=> .nil)
  (F:=fun k s=>FX29 k s.1.1) (fun k s r h=>(e29 (FX42 k) (FX43 k) s).trans (b29 k s.1.1 r h)) k
theorem b44 (k:Nat) (x0:TQ):LeO (FX44 k x0) (B44 x0):=LeO.refl _
theorem ok44 (k:Nat):FeOk Try.prog (fe44 (FX44 k)):=
 fe_ok EOK HM (es:=fun k=>fes44) (fun k=>fz) (N:=7) (an:=an44) (c:=cd44) (rms:=rm44) (ask:=ask44) (rsk:=rsk44) (enc:=enc44) (dec:=dec44) (tbl:=[]) (fun s=>rfl) Try.func44 (by kernel_rfl) (by kernel_rfl) (by kernel_rfl) (fun k=>les44)
  (fz) (fun k s0=> .nil)
  (F:=fun k s=>FX44 k s.1.1) (fun k s r h=>(e44 s).trans (b44 k s.1.1 r h)) k
theorem b30l0 (k:Nat) (x0:(List TQ)) (x3:Int):LeO (GX30l0 (k+1) x0 x3) (B30l0 (GX30l0 k) (FX44 k) x0 x3):=by rw [GX30l0];exact LeO.refl _
theorem b30 (k:Nat) (x0:(List TQ)):LeO (FX30 k x0) (B30 (GX30l0 k) x0):=LeO.refl _
theorem ok30 (k:Nat):FeOk Try.prog (fe30 (FX30 k)):=
 fe_ok EOK HM (es:=fun k=>fes30 (FX44 k)) (fun k=>fc ⟨ok44 k,fz⟩) (N:=22) (an:=an30) (c:=cd30) (rms:=rm30) (ask:=ask30) (rsk:=rsk30) (enc:=enc30) (dec:=dec30) (tbl:=[p30.getD 0 ⟨0,[], .skip⟩]) (fun s=>rfl) Try.func30 (by kernel_rfl) (by kernel_rfl) (by kernel_rfl) (fun k=>les30 (GX30l0 k))
  (fc ⟨fun s=>rfl,fz⟩) (fun k s0=> .cons (by kernel_rfl) (by kernel_rfl) (fun s r h=>(e30l0 (GX30l0 k) (FX44 k) s0 s).trans (b30l0 k s.1.1 s.1.2.1 r h)) (.nil))
  (F:=fun k s=>FX30 k s.1.1) (fun k s r h=>(e30 (GX30l0 k) (FX44 k) s).trans (b30 k s.1.1 r h)) k
theorem b34l0 (k:Nat) (x0:Int) (x1:Int) (x5:Int) (x6:Int):LeO (GX34l0 (k+1) x0 x1 x5 x6) (B34l0 (GX34l0 k) x0 x1 x5 x6):=by rw [GX34l0];exact LeO.refl _
theorem b34 (k:Nat) (x0:Int) (x1:Int):LeO (FX34 k x0 x1) (B34 (GX34l0 k) x0 x1):=LeO.refl _
theorem ok34 (k:Nat):FeOk Try.prog (fe34 (FX34 k)):=
 fe_ok EOK HM (es:=fun k=>fes34) (fun k=>fz) (N:=29) (an:=an34) (c:=cd34) (rms:=rm34) (ask:=ask34) (rsk:=rsk34) (enc:=enc34) (dec:=dec34) (tbl:=[p34.getD 0 ⟨0,[], .skip⟩]) (fun s=>rfl) Try.func34 (by kernel_rfl) (by kernel_rfl) (by kernel_rfl) (fun k=>les34 (GX34l0 k))
  (fc ⟨fun s=>rfl,fz⟩) (fun k s0=> .cons (by kernel_rfl) (by kernel_rfl) (fun s r h=>(e34l0 (GX34l0 k) s0 s).trans (b34l0 k s.1.1 s.1.2.1 s.1.2.2.1 s.1.2.2.2.1 r h)) (.nil))
  (F:=fun k s=>FX34 k s.1.1 s.1.2.1) (fun k s r h=>(e34 (GX34l0 k) s).trans (b34 k s.1.1 s.1.2.1 r h)) k
theorem b12l0 (k:Nat) (x0:Int) (x6:Int) (x27:Int) (x28:Int) (x5:(List TQ)):LeO (GX12l0 (k+1) x0 x6 x27 x28 x5) (B12l0 (GX12l0 k) (FX17 k) (FX29 k) (FX30 k) (FX34 k) x0 x6 x27 x28 x5):=by rw [GX12l0];exact LeO.refl _
theorem b12 (k:Nat) (x0:Int):LeO (FX12 k x0) (B12 (GX12l0 k) (FX17 k) (FX18 k) (FX34 k) x0):=LeO.refl _
theorem ok12 (k:Nat):FeOk Try.prog (fe12 (FX12 k)):=
 fe_ok EOK HM (es:=fun k=>fes12 (FX17 k) (FX18 k) (FX29 k) (FX30 k) (FX34 k)) (fun k=>fc ⟨ok17 k,fc ⟨ok18 k,fc ⟨ok29 k,fc ⟨ok30 k,fc ⟨ok34 k,fz⟩⟩⟩⟩⟩) (N:=50) (an:=an12) (c:=cd12) (rms:=rm12) (ask:=ask12) (rsk:=rsk12) (enc:=enc12) (dec:=dec12) (tbl:=[p12.getD 0 ⟨0,[], .skip⟩]) (fun s=>rfl) Try.func12 (by kernel_rfl) (by kernel_rfl) (by kernel_rfl) (fun k=>les12 (GX12l0 k))
  (fc ⟨fun s=>rfl,fz⟩) (fun k s0=> .cons (by kernel_rfl) (by kernel_rfl) (fun s r h=>(e12l0 (GX12l0 k) (FX17 k) (FX18 k) (FX29 k) (FX30 k) (FX34 k) s0 s).trans (b12l0 k s.1.1 s.1.2.1 s.1.2.2.1 s.1.2.2.2.1 s.2.1 r h)) (.nil))
  (F:=fun k s=>FX12 k s.1.1) (fun k s r h=>(e12 (GX12l0 k) (FX17 k) (FX18 k) (FX29 k) (FX30 k) (FX34 k) s).trans (b12 k s.1.1 r h)) k
theorem b13l0 (k:Nat) (x0:(List TQ)) (x1:(List TQ)) (x12:Int) (x13:Int):LeO (GX13l0 (k+1) x0 x1 x12 x13) (B13l0 (GX13l0 k) x0 x1 x12 x13):=by rw [GX13l0];exact LeO.refl _
theorem b13 (k:Nat) (x0:(List TQ)) (x1:(List TQ)):LeO (FX13 k x0 x1) (B13 (GX13l0 k) x0 x1):=LeO.refl _
theorem ok13 (k:Nat):FeOk Try.prog (fe13 (FX13 k)):=
 fe_ok EOK HM (es:=fun k=>fes13) (fun k=>fz) (N:=26) (an:=an13) (c:=cd13) (rms:=rm13) (ask:=ask13) (rsk:=rsk13) (enc:=enc13) (dec:=dec13) (tbl:=[p13.getD 0 ⟨0,[], .skip⟩]) (fun s=>rfl) Try.func13 (by kernel_rfl) (by kernel_rfl) (by kernel_rfl) (fun k=>les13 (GX13l0 k))
  (fc ⟨fun s=>rfl,fz⟩) (fun k s0=> .cons (by kernel_rfl) (by kernel_rfl) (fun s r h=>(e13l0 (GX13l0 k) s0 s).trans (b13l0 k s.1.1 s.1.2.1 s.1.2.2.1 s.1.2.2.2.1 r h)) (.nil))
  (F:=fun k s=>FX13 k s.1.1 s.1.2.1) (fun k s r h=>(e13 (GX13l0 k) s).trans (b13 k s.1.1 s.1.2.1 r h)) k
theorem b54l0 (k:Nat) (x0:(List Int)) (x4:Int) (x3:(List Int)):LeO (GX54l0 (k+1) x0 x4 x3) (B54l0 (GX54l1 k) x0 x4 x3):=by rw [GX54l0];exact LeO.refl _
theorem b54l1 (k:Nat) (x0:(List Int)) (x4:Int) (x5:Int) (x3:(List Int)):LeO (GX54l1 (k+1) x0 x4 x5 x3) (B54l1 (GX54l0 k) (GX54l1 k) x0 x4 x5 x3):=by rw [GX54l1];exact LeO.refl _
theorem b54 (k:Nat) (x0:(List Int)):LeO (FX54 k x0) (B54 (GX54l0 k) x0):=LeO.refl _
theorem ok54 (k:Nat):FeOk Try.prog (fe54 (FX54 k)):=
 fe_ok EOK HM (es:=fun k=>fes54) (fun k=>fz) (N:=38) (an:=an54) (c:=cd54) (rms:=rm54) (ask:=ask54) (rsk:=rsk54) (enc:=enc54) (dec:=dec54) (tbl:=[p54.getD 0 ⟨0,[], .skip⟩,p54.getD 1 ⟨0,[], .skip⟩]) (fun s=>rfl) Try.func54 (by kernel_rfl) (by kernel_rfl) (by kernel_rfl) (fun k=>les54 (GX54l0 k) (GX54l1 k))
  (fc ⟨fun s=>rfl,fc ⟨fun s=>rfl,fz⟩⟩) (fun k s0=> .cons (by kernel_rfl) (by kernel_rfl) (fun s r h=>(e54l0 (GX54l0 k) (GX54l1 k) s0 s).trans (b54l0 k s.1.1 s.1.2.1 s.2.1 r h)) (.cons (by kernel_rfl) (by kernel_rfl) (fun s r h=>(e54l1 (GX54l0 k) (GX54l1 k) s0 s).trans (b54l1 k s.1.1 s.1.2.1 s.1.2.2.1 s.2.1 r h)) (.nil)))
  (F:=fun k s=>FX54 k s.1.1) (fun k s r h=>(e54 (GX54l0 k) (GX54l1 k) s).trans (b54 k s.1.1 r h)) k
theorem b51 (k:Nat) (x0:Int):LeO (FX51 k x0) (B51 (FX54 k) x0):=LeO.refl _
theorem ok51 (k:Nat):FeOk Try.prog (fe51 (FX51 k)):=
 fe_ok EOK HM (es:=fun k=>fes51 (FX54 k)) (fun k=>fc ⟨ok54 k,fz⟩) (N:=9) (an:=an51) (c:=cd51) (rms:=rm51) (ask:=ask51) (rsk:=rsk51) (enc:=enc51) (dec:=dec51) (tbl:=[]) (fun s=>rfl) Try.func51 (by kernel_rfl) (by kernel_rfl) (by kernel_rfl) (fun k=>les51)
  (fz) (fun k s0=> .nil)
  (F:=fun k s=>FX51 k s.1.1) (fun k s r h=>(e51 (FX54 k) s).trans (b51 k s.1.1 r h)) k
theorem b45 (k:Nat) (x0:Int):LeO (FX45 k x0) (B45 (FX51 k) x0):=LeO.refl _
theorem ok45 (k:Nat):FeOk Try.prog (fe45 (FX45 k)):=
 fe_ok EOK HM (es:=fun k=>fes45 (FX51 k)) (fun k=>fc ⟨ok51 k,fz⟩) (N:=16) (an:=an45) (c:=cd45) (rms:=rm45) (ask:=ask45) (rsk:=rsk45) (enc:=enc45) (dec:=dec45) (tbl:=[]) (fun s=>rfl) Try.func45 (by kernel_rfl) (by kernel_rfl) (by kernel_rfl) (fun k=>les45)
  (fz) (fun k s0=> .nil)
  (F:=fun k s=>FX45 k s.1.1) (fun k s r h=>(e45 (FX51 k) s).trans (b45 k s.1.1 r h)) k
theorem b31 (k:Nat) (x0:Int):LeO (FX31 k x0) (B31 (FX45 k) x0):=LeO.refl _
theorem ok31 (k:Nat):FeOk Try.prog (fe31 (FX31 k)):=
 fe_ok EOK HM (es:=fun k=>fes31 (FX45 k)) (fun k=>fc ⟨ok45 k,fz⟩) (N:=6) (an:=an31) (c:=cd31) (rms:=rm31) (ask:=ask31) (rsk:=rsk31) (enc:=enc31) (dec:=dec31) (tbl:=[]) (fun s=>rfl) Try.func31 (by kernel_rfl) (by kernel_rfl) (by kernel_rfl) (fun k=>les31)
  (fz) (fun k s0=> .nil)
  (F:=fun k s=>FX31 k s.1.1) (fun k s r h=>(e31 (FX45 k) s).trans (b31 k s.1.1 r h)) k
theorem b52 (k:Nat) (x0:TI):LeO (FX52 k x0) (B52 x0):=LeO.refl _
theorem ok52 (k:Nat):FeOk Try.prog (fe52 (FX52 k)):=
 fe_ok EOK HM (es:=fun k=>fes52) (fun k=>fz) (N:=10) (an:=an52) (c:=cd52) (rms:=rm52) (ask:=ask52) (rsk:=rsk52) (enc:=enc52) (dec:=dec52) (tbl:=[]) (fun s=>rfl) Try.func52 (by kernel_rfl) (by kernel_rfl) (by kernel_rfl) (fun k=>les52)
  (fz) (fun k s0=> .nil)
  (F:=fun k s=>FX52 k s.1.1) (fun k s r h=>(e52 s).trans (b52 k s.1.1 r h)) k
theorem b46 (k:Nat) (x0:TQ):LeO (FX46 k x0) (B46 (FX52 k) x0):=LeO.refl _
theorem ok46 (k:Nat):FeOk Try.prog (fe46 (FX46 k)):=
 fe_ok EOK HM (es:=fun k=>fes46 (FX52 k)) (fun k=>fc ⟨ok52 k,fz⟩) (N:=6) (an:=an46) (c:=cd46) (rms:=rm46) (ask:=ask46) (rsk:=rsk46) (enc:=enc46) (dec:=dec46) (tbl:=[]) (fun s=>rfl) Try.func46 (by kernel_rfl) (by kernel_rfl) (by kernel_rfl) (fun k=>les46)
  (fz) (fun k s0=> .nil)
  (F:=fun k s=>FX46 k s.1.1) (fun k s r h=>(e46 (FX52 k) s).trans (b46 k s.1.1 r h)) k
theorem b32l0 (k:Nat) (x0:(List TQ)) (x3:Int):LeO (GX32l0 (k+1) x0 x3) (B32l0 (GX32l0 k) (FX46 k) x0 x3):=by rw [GX32l0];exact LeO.refl _
theorem b32 (k:Nat) (x0:(List TQ)):LeO (FX32 k x0) (B32 (GX32l0 k) x0):=LeO.refl _
theorem ok32 (k:Nat):FeOk Try.prog (fe32 (FX32 k)):=
 fe_ok EOK HM (es:=fun k=>fes32 (FX46 k)) (fun k=>fc ⟨ok46 k,fz⟩) (N:=24) (an:=an32) (c:=cd32) (rms:=rm32) (ask:=ask32) (rsk:=rsk32) (enc:=enc32) (dec:=dec32) (tbl:=[p32.getD 0 ⟨0,[], .skip⟩]) (fun s=>rfl) Try.func32 (by kernel_rfl) (by kernel_rfl) (by kernel_rfl) (fun k=>les32 (GX32l0 k))
  (fc ⟨fun s=>rfl,fz⟩) (fun k s0=> .cons (by kernel_rfl) (by kernel_rfl) (fun s r h=>(e32l0 (GX32l0 k) (FX46 k) s0 s).trans (b32l0 k s.1.1 s.1.2.1 r h)) (.nil))
  (F:=fun k s=>FX32 k s.1.1) (fun k s r h=>(e32 (GX32l0 k) (FX46 k) s).trans (b32 k s.1.1 r h)) k
theorem b14l0 (k:Nat) (x6:(List Int)) (x7:Int) (x8:Int) (x3:(List TQ)):LeO (GX14l0 (k+1) x6 x7 x8 x3) (B14l0 (GX14l0 k) (FX31 k) (FX32 k) x6 x7 x8 x3):=by rw [GX14l0];exact LeO.refl _
theorem b14 (k:Nat) (x0:(List Int)):LeO (FX14 k x0) (B14 (GX14l0 k) x0):=LeO.refl _
theorem ok14 (k:Nat):FeOk Try.prog (fe14 (FX14 k)):=
 fe_ok EOK HM (es:=fun k=>fes14 (FX31 k) (FX32 k)) (fun k=>fc ⟨ok31 k,fc ⟨ok32 k,fz⟩⟩) (N:=20) (an:=an14) (c:=cd14) (rms:=rm14) (ask:=ask14) (rsk:=rsk14) (enc:=enc14) (dec:=dec14) (tbl:=[p14.getD 0 ⟨0,[], .skip⟩]) (fun s=>rfl) Try.func14 (by kernel_rfl) (by kernel_rfl) (by kernel_rfl) (fun k=>les14 (GX14l0 k))
  (fc ⟨fun s=>rfl,fz⟩) (fun k s0=> .cons (by kernel_rfl) (by kernel_rfl) (fun s r h=>(e14l0 (GX14l0 k) (FX31 k) (FX32 k) s0 s).trans (b14l0 k s.1.1 s.1.2.1 s.1.2.2.1 s.2.1 r h)) (.nil))
  (F:=fun k s=>FX14 k s.1.1) (fun k s r h=>(e14 (GX14l0 k) (FX31 k) (FX32 k) s).trans (b14 k s.1.1 r h)) k
theorem b4 (k:Nat):LeO (FX4 k) (B4 (FX12 k) (FX13 k) (FX14 k)):=LeO.refl _
theorem ok4 (k:Nat):FeOk Try.prog (fe4 (FX4 k)):=
 fe_ok EOK HM (es:=fun k=>fes4 (FX12 k) (FX13 k) (FX14 k)) (fun k=>fc ⟨ok12 k,fc ⟨ok13 k,fc ⟨ok14 k,fz⟩⟩⟩) (N:=15) (an:=an4) (c:=cd4) (rms:=rm4) (ask:=ask4) (rsk:=rsk4) (enc:=enc4) (dec:=dec4) (tbl:=[]) (fun s=>rfl) Try.func4 (by kernel_rfl) (by kernel_rfl) (by kernel_rfl) (fun k=>les4)
  (fz) (fun k s0=> .nil)
  (F:=fun k s=>FX4 k) (fun k s r h=>(e4 (FX12 k) (FX13 k) (FX14 k) s).trans (b4 k r h)) k
theorem b15l0 (k:Nat) (x0:Int) (x3:Int):LeO (GX15l0 (k+1) x0 x3) (B15l0 (GX15l0 k) x0 x3):=by rw [GX15l0];exact LeO.refl _
theorem b15 (k:Nat) (x0:Int):LeO (FX15 k x0) (B15 (GX15l0 k) x0):=LeO.refl _
theorem ok15 (k:Nat):FeOk Try.prog (fe15 (FX15 k)):=
 fe_ok EOK HM (es:=fun k=>fes15) (fun k=>fz) (N:=17) (an:=an15) (c:=cd15) (rms:=rm15) (ask:=ask15) (rsk:=rsk15) (enc:=enc15) (dec:=dec15) (tbl:=[p15.getD 0 ⟨0,[], .skip⟩]) (fun s=>rfl) Try.func15 (by kernel_rfl) (by kernel_rfl) (by kernel_rfl) (fun k=>les15 (GX15l0 k))
  (fc ⟨fun s=>rfl,fz⟩) (fun k s0=> .cons (by kernel_rfl) (by kernel_rfl) (fun s r h=>(e15l0 (GX15l0 k) s0 s).trans (b15l0 k s.1.1 s.1.2.1 r h)) (.nil))
  (F:=fun k s=>FX15 k s.1.1) (fun k s r h=>(e15 (GX15l0 k) s).trans (b15 k s.1.1 r h)) k
theorem b5l0 (k:Nat) (x3:Int) (x4:Int):LeO (GX5l0 (k+1) x3 x4) (B5l0 (GX5l0 k) (FX15 k) x3 x4):=by rw [GX5l0];exact LeO.refl _
theorem b5 (k:Nat) (x0:Int):LeO (FX5 k x0) (B5 (GX5l0 k) x0):=LeO.refl _
theorem ok5 (k:Nat):FeOk Try.prog (fe5 (FX5 k)):=
 fe_ok EOK HM (es:=fun k=>fes5 (FX15 k)) (fun k=>fc ⟨ok15 k,fz⟩) (N:=22) (an:=an5) (c:=cd5) (rms:=rm5) (ask:=ask5) (rsk:=rsk5) (enc:=enc5) (dec:=dec5) (tbl:=[p5.getD 0 ⟨0,[], .skip⟩]) (fun s=>rfl) Try.func5 (by kernel_rfl) (by kernel_rfl) (by kernel_rfl) (fun k=>les5 (GX5l0 k))
  (fc ⟨fun s=>rfl,fz⟩) (fun k s0=> .cons (by kernel_rfl) (by kernel_rfl) (fun s r h=>(e5l0 (GX5l0 k) (FX15 k) s0 s).trans (b5l0 k s.1.1 s.1.2.1 r h)) (.nil))
  (F:=fun k s=>FX5 k s.1.1) (fun k s r h=>(e5 (GX5l0 k) (FX15 k) s).trans (b5 k s.1.1 r h)) k
theorem b33 (k:Nat) (x0:Int) (x1:Int):LeO (FX33 k x0 x1) (B33 x0 x1):=LeO.refl _
theorem ok33 (k:Nat):FeOk Try.prog (fe33 (FX33 k)):=
 fe_ok EOK HM (es:=fun k=>fes33) (fun k=>fz) (N:=12) (an:=an33) (c:=cd33) (rms:=rm33) (ask:=ask33) (rsk:=rsk33) (enc:=enc33) (dec:=dec33) (tbl:=[]) (fun s=>rfl) Try.func33 (by kernel_rfl) (by kernel_rfl) (by kernel_rfl) (fun k=>les33)
  (fz) (fun k s0=> .nil)
  (F:=fun k s=>FX33 k s.1.1 s.1.2.1) (fun k s r h=>(e33 s).trans (b33 k s.1.1 s.1.2.1 r h)) k
theorem b16 (k:Nat) (x0:(ByteArray×Int)) (x1:Int) (x2:Int):LeO (FX16 k x0 x1 x2) (B16 (FX18 k) (FX33 k) (FX34 k) x0 x1 x2):=LeO.refl _
theorem ok16 (k:Nat):FeOk Try.prog (fe16 (FX16 k)):=
 fe_ok EOK HM (es:=fun k=>fes16 (FX18 k) (FX33 k) (FX34 k)) (fun k=>fc ⟨ok18 k,fc ⟨ok33 k,fc ⟨ok34 k,fz⟩⟩⟩) (N:=26) (an:=an16) (c:=cd16) (rms:=rm16) (ask:=ask16) (rsk:=rsk16) (enc:=enc16) (dec:=dec16) (tbl:=[]) (fun s=>rfl) Try.func16 (by kernel_rfl) (by kernel_rfl) (by kernel_rfl) (fun k=>les16)
  (fz) (fun k s0=> .nil)
  (F:=fun k s=>FX16 k s.1.1 s.1.2.1 s.1.2.2.1) (fun k s r h=>(e16 (FX18 k) (FX33 k) (FX34 k) s).trans (b16 k s.1.1 s.1.2.1 s.1.2.2.1 r h)) k
theorem b6 (k:Nat) (x0:Int) (x1:Int):LeO (FX6 k x0 x1) (B6 (FX16 k) (FX17 k) x0 x1):=LeO.refl _
theorem ok6 (k:Nat):FeOk Try.prog (fe6 (FX6 k)):=
 fe_ok EOK HM (es:=fun k=>fes6 (FX16 k) (FX17 k)) (fun k=>fc ⟨ok16 k,fc ⟨ok17 k,fz⟩⟩) (N:=12) (an:=an6) (c:=cd6) (rms:=rm6) (ask:=ask6) (rsk:=rsk6) (enc:=enc6) (dec:=dec6) (tbl:=[]) (fun s=>rfl) Try.func6 (by kernel_rfl) (by kernel_rfl) (by kernel_rfl) (fun k=>les6)
  (fz) (fun k s0=> .nil)
  (F:=fun k s=>FX6 k s.1.1 s.1.2.1) (fun k s r h=>(e6 (FX16 k) (FX17 k) s).trans (b6 k s.1.1 s.1.2.1 r h)) k
theorem b19 (k:Nat) (x0:Int):LeO (FX19 k x0) (B19 x0):=LeO.refl _
theorem ok19 (k:Nat):FeOk Try.prog (fe19 (FX19 k)):=
 fe_ok EOK HM (es:=fun k=>fes19) (fun k=>fz) (N:=7) (an:=an19) (c:=cd19) (rms:=rm19) (ask:=ask19) (rsk:=rsk19) (enc:=enc19) (dec:=dec19) (tbl:=[]) (fun s=>rfl) Try.func19 (by kernel_rfl) (by kernel_rfl) (by kernel_rfl) (fun k=>les19)
  (fz) (fun k s0=> .nil)
  (F:=fun k s=>FX19 k s.1.1) (fun k s r h=>(e19 s).trans (b19 k s.1.1 r h)) k
theorem b7 (k:Nat) (x0:Int):LeO (FX7 k x0) (B7 (FX18 k) (FX19 k) x0):=LeO.refl _
theorem ok7 (k:Nat):FeOk Try.prog (fe7 (FX7 k)):=
 fe_ok EOK HM (es:=fun k=>fes7 (FX18 k) (FX19 k)) (fun k=>fc ⟨ok18 k,fc ⟨ok19 k,fz⟩⟩) (N:=17) (an:=an7) (c:=cd7) (rms:=rm7) (ask:=ask7) (rsk:=rsk7) (enc:=enc7) (dec:=dec7) (tbl:=[]) (fun s=>rfl) Try.func7 (by kernel_rfl) (by kernel_rfl) (by kernel_rfl) (fun k=>les7)
  (fz) (fun k s0=> .nil)
  (F:=fun k s=>FX7 k s.1.1) (fun k s r h=>(e7 (FX18 k) (FX19 k) s).trans (b7 k s.1.1 r h)) k
theorem b49 (k:Nat) (x0:Int) (x1:Int):LeO (FX49 k x0 x1) (B49 x0 x1):=LeO.refl _
theorem ok49 (k:Nat):FeOk Try.prog (fe49 (FX49 k)):=
 fe_ok EOK HM (es:=fun k=>fes49) (fun k=>fz) (N:=14) (an:=an49) (c:=cd49) (rms:=rm49) (ask:=ask49) (rsk:=rsk49) (enc:=enc49) (dec:=dec49) (tbl:=[]) (fun s=>rfl) Try.func49 (by kernel_rfl) (by kernel_rfl) (by kernel_rfl) (fun k=>les49)
  (fz) (fun k s0=> .nil)
  (F:=fun k s=>FX49 k s.1.1 s.1.2.1) (fun k s r h=>(e49 s).trans (b49 k s.1.1 s.1.2.1 r h)) k
theorem b39l0 (k:Nat) (x0:Int) (x1:Int) (x2:Int) (x7:Int):LeO (GX39l0 (k+1) x0 x1 x2 x7) (B39l0 (GX39l0 k) x0 x1 x2 x7):=by rw [GX39l0];exact LeO.refl _
theorem b39 (k:Nat) (x0:Int) (x1:Int) (x2:Int):LeO (FX39 k x0 x1 x2) (B39 (GX39l0 k) (FX49 k) x0 x1 x2):=LeO.refl _
theorem ok39 (k:Nat):FeOk Try.prog (fe39 (FX39 k)):=
 fe_ok EOK HM (es:=fun k=>fes39 (FX49 k)) (fun k=>fc ⟨ok49 k,fz⟩) (N:=31) (an:=an39) (c:=cd39) (rms:=rm39) (ask:=ask39) (rsk:=rsk39) (enc:=enc39) (dec:=dec39) (tbl:=[p39.getD 0 ⟨0,[], .skip⟩]) (fun s=>rfl) Try.func39 (by kernel_rfl) (by kernel_rfl) (by kernel_rfl) (fun k=>les39 (GX39l0 k))
  (fc ⟨fun s=>rfl,fz⟩) (fun k s0=> .cons (by kernel_rfl) (by kernel_rfl) (fun s r h=>(e39l0 (GX39l0 k) (FX49 k) s0 s).trans (b39l0 k s.1.1 s.1.2.1 s.1.2.2.1 s.1.2.2.2.1 r h)) (.nil))
  (F:=fun k s=>FX39 k s.1.1 s.1.2.1 s.1.2.2.1) (fun k s r h=>(e39 (GX39l0 k) (FX49 k) s).trans (b39 k s.1.1 s.1.2.1 s.1.2.2.1 r h)) k
theorem b22 (k:Nat) (x0:Int) (x1:Int):LeO (FX22 k x0 x1) (B22 (FX39 k) x0 x1):=LeO.refl _
theorem ok22 (k:Nat):FeOk Try.prog (fe22 (FX22 k)):=
 fe_ok EOK HM (es:=fun k=>fes22 (FX39 k)) (fun k=>fc ⟨ok39 k,fz⟩) (N:=15) (an:=an22) (c:=cd22) (rms:=rm22) (ask:=ask22) (rsk:=rsk22) (enc:=enc22) (dec:=dec22) (tbl:=[]) (fun s=>rfl) Try.func22 (by kernel_rfl) (by kernel_rfl) (by kernel_rfl) (fun k=>les22)
  (fz) (fun k s0=> .nil)
  (F:=fun k s=>FX22 k s.1.1 s.1.2.1) (fun k s r h=>(e22 (FX39 k) s).trans (b22 k s.1.1 s.1.2.1 r h)) k
theorem b8 (k:Nat) (x0:Int) (x1:Int):LeO (FX8 k x0 x1) (B8 (FX20 k) (FX21 k) (FX22 k) x0 x1):=LeO.refl _
theorem ok8 (k:Nat):FeOk Try.prog (fe8 (FX8 k)):=
 fe_ok EOK HM (es:=fun k=>fes8 (FX20 k) (FX21 k) (FX22 k)) (fun k=>fc ⟨ok20 k,fc ⟨ok21 k,fc ⟨ok22 k,fz⟩⟩⟩) (N:=19) (an:=an8) (c:=cd8) (rms:=rm8) (ask:=ask8) (rsk:=rsk8) (enc:=enc8) (dec:=dec8) (tbl:=[]) (fun s=>rfl) Try.func8 (by kernel_rfl) (by kernel_rfl) (by kernel_rfl) (fun k=>les8)
  (fz) (fun k s0=> .nil)
  (F:=fun k s=>FX8 k s.1.1 s.1.2.1) (fun k s r h=>(e8 (FX20 k) (FX21 k) (FX22 k) s).trans (b8 k s.1.1 s.1.2.1 r h)) k
theorem b9 (k:Nat) (x0:Int) (x1:Int):LeO (FX9 k x0 x1) (B9 (FX17 k) (FX18 k) (FX34 k) x0 x1):=LeO.refl _
theorem ok9 (k:Nat):FeOk Try.prog (fe9 (FX9 k)):=
 fe_ok EOK HM (es:=fun k=>fes9 (FX17 k) (FX18 k) (FX34 k)) (fun k=>fc ⟨ok17 k,fc ⟨ok18 k,fc ⟨ok34 k,fz⟩⟩⟩) (N:=32) (an:=an9) (c:=cd9) (rms:=rm9) (ask:=ask9) (rsk:=rsk9) (enc:=enc9) (dec:=dec9) (tbl:=[]) (fun s=>rfl) Try.func9 (by kernel_rfl) (by kernel_rfl) (by kernel_rfl) (fun k=>les9)
  (fz) (fun k s0=> .nil)
  (F:=fun k s=>FX9 k s.1.1 s.1.2.1) (fun k s r h=>(e9 (FX17 k) (FX18 k) (FX34 k) s).trans (b9 k s.1.1 s.1.2.1 r h)) k
theorem b25l0 (k:Nat) (x5:(List Int)) (x6:Int) (x7:Int):LeO (GX25l0 (k+1) x5 x6 x7) (B25l0 (GX25l0 k) x5 x6 x7):=by rw [GX25l0];exact LeO.refl _
theorem b25 (k:Nat) (x0:(List Int)):LeO (FX25 k x0) (B25 (GX25l0 k) x0):=LeO.refl _
theorem ok25 (k:Nat):FeOk Try.prog (fe25 (FX25 k)):=
 fe_ok EOK HM (es:=fun k=>fes25) (fun k=>fz) (N:=18) (an:=an25) (c:=cd25) (rms:=rm25) (ask:=ask25) (rsk:=rsk25) (enc:=enc25) (dec:=dec25) (tbl:=[p25.getD 0 ⟨0,[], .skip⟩]) (fun s=>rfl) Try.func25 (by kernel_rfl) (by kernel_rfl) (by kernel_rfl) (fun k=>les25 (GX25l0 k))
  (fc ⟨fun s=>rfl,fz⟩) (fun k s0=> .cons (by kernel_rfl) (by kernel_rfl) (fun s r h=>(e25l0 (GX25l0 k) s0 s).trans (b25l0 k s.1.1 s.1.2.1 s.1.2.2.1 r h)) (.nil))
  (F:=fun k s=>FX25 k s.1.1) (fun k s r h=>(e25 (GX25l0 k) s).trans (b25 k s.1.1 r h)) k
theorem b40l0 (k:Nat) (x0:Int) (x4:Int) (x5:Int):LeO (GX40l0 (k+1) x0 x4 x5) (B40l0 (GX40l1 k) x0 x4 x5):=by rw [GX40l0];exact LeO.refl _
theorem b40l1 (k:Nat) (x0:Int) (x4:Int) (x5:Int):LeO (GX40l1 (k+1) x0 x4 x5) (B40l1 (GX40l0 k) (GX40l1 k) x0 x4 x5):=by rw [GX40l1];exact LeO.refl _
theorem b40 (k:Nat) (x0:Int):LeO (FX40 k x0) (B40 (GX40l0 k) x0):=LeO.refl _
theorem ok40 (k:Nat):FeOk Try.prog (fe40 (FX40 k)):=
 fe_ok EOK HM (es:=fun k=>fes40) (fun k=>fz) (N:=32) (an:=an40) (c:=cd40) (rms:=rm40) (ask:=ask40) (rsk:=rsk40) (enc:=enc40) (dec:=dec40) (tbl:=[p40.getD 0 ⟨0,[], .skip⟩,p40.getD 1 ⟨0,[], .skip⟩]) (fun s=>rfl) Try.func40 (by kernel_rfl) (by kernel_rfl) (by kernel_rfl) (fun k=>les40 (GX40l0 k) (GX40l1 k))
  (fc ⟨fun s=>rfl,fc ⟨fun s=>rfl,fz⟩⟩) (fun k s0=> .cons (by kernel_rfl) (by kernel_rfl) (fun s r h=>(e40l0 (GX40l0 k) (GX40l1 k) s0 s).trans (b40l0 k s.1.1 s.1.2.1 s.1.2.2.1 r h)) (.cons (by kernel_rfl) (by kernel_rfl) (fun s r h=>(e40l1 (GX40l0 k) (GX40l1 k) s0 s).trans (b40l1 k s.1.1 s.1.2.1 s.1.2.2.1 r h)) (.nil)))
  (F:=fun k s=>FX40 k s.1.1) (fun k s r h=>(e40 (GX40l0 k) (GX40l1 k) s).trans (b40 k s.1.1 r h)) k
theorem b23 (k:Nat) (x0:Int):LeO (FX23 k x0) (B23 (FX25 k) (FX40 k) x0):=LeO.refl _
theorem ok23 (k:Nat):FeOk Try.prog (fe23 (FX23 k)):=
 fe_ok EOK HM (es:=fun k=>fes23 (FX25 k) (FX40 k)) (fun k=>fc ⟨ok25 k,fc ⟨ok40 k,fz⟩⟩) (N:=27) (an:=an23) (c:=cd23) (rms:=rm23) (ask:=ask23) (rsk:=rsk23) (enc:=enc23) (dec:=dec23) (tbl:=[]) (fun s=>rfl) Try.func23 (by kernel_rfl) (by kernel_rfl) (by kernel_rfl) (fun k=>les23)
  (fz) (fun k s0=> .nil)
  (F:=fun k s=>FX23 k s.1.1) (fun k s r h=>(e23 (FX25 k) (FX40 k) s).trans (b23 k s.1.1 r h)) k
theorem b24 (k:Nat) (x0:Int):LeO (FX24 k x0) (B24 x0):=LeO.refl _
theorem ok24 (k:Nat):FeOk Try.prog (fe24 (FX24 k)):=
 fe_ok EOK HM (es:=fun k=>fes24) (fun k=>fz) (N:=5) (an:=an24) (c:=cd24) (rms:=rm24) (ask:=ask24) (rsk:=rsk24) (enc:=enc24) (dec:=dec24) (tbl:=[]) (fun s=>rfl) Try.func24 (by kernel_rfl) (by kernel_rfl) (by kernel_rfl) (fun k=>les24)
  (fz) (fun k s0=> .nil)
  (F:=fun k s=>FX24 k s.1.1) (fun k s r h=>(e24 s).trans (b24 k s.1.1 r h)) k
theorem b10 (k:Nat) (x0:Int):LeO (FX10 k x0) (B10 (FX23 k) (FX24 k) x0):=LeO.refl _
theorem ok10 (k:Nat):FeOk Try.prog (fe10 (FX10 k)):=
 fe_ok EOK HM (es:=fun k=>fes10 (FX23 k) (FX24 k)) (fun k=>fc ⟨ok23 k,fc ⟨ok24 k,fz⟩⟩) (N:=28) (an:=an10) (c:=cd10) (rms:=rm10) (ask:=ask10) (rsk:=rsk10) (enc:=enc10) (dec:=dec10) (tbl:=[]) (fun s=>rfl) Try.func10 (by kernel_rfl) (by kernel_rfl) (by kernel_rfl) (fun k=>les10)
  (fz) (fun k s0=> .nil)
  (F:=fun k s=>FX10 k s.1.1) (fun k s r h=>(e10 (FX23 k) (FX24 k) s).trans (b10 k s.1.1 r h)) k
theorem b26 (k:Nat) (x0:Int):LeO (FX26 k x0) (B26 (FX24 k) (FX40 k) x0):=LeO.refl _
theorem ok26 (k:Nat):FeOk Try.prog (fe26 (FX26 k)):=
 fe_ok EOK HM (es:=fun k=>fes26 (FX24 k) (FX40 k)) (fun k=>fc ⟨ok24 k,fc ⟨ok40 k,fz⟩⟩) (N:=41) (an:=an26) (c:=cd26) (rms:=rm26) (ask:=ask26) (rsk:=rsk26) (enc:=enc26) (dec:=dec26) (tbl:=[]) (fun s=>rfl) Try.func26 (by kernel_rfl) (by kernel_rfl) (by kernel_rfl) (fun k=>les26)
  (fz) (fun k s0=> .nil)
  (F:=fun k s=>FX26 k s.1.1) (fun k s r h=>(e26 (FX24 k) (FX40 k) s).trans (b26 k s.1.1 r h)) k
theorem b27 (k:Nat) (x0:Int):LeO (FX27 k x0) (B27 (FX35 k) x0):=LeO.refl _
theorem ok27 (k:Nat):FeOk Try.prog (fe27 (FX27 k)):=
 fe_ok EOK HM (es:=fun k=>fes27 (FX35 k)) (fun k=>fc ⟨ok35 k,fz⟩) (N:=16) (an:=an27) (c:=cd27) (rms:=rm27) (ask:=ask27) (rsk:=rsk27) (enc:=enc27) (dec:=dec27) (tbl:=[]) (fun s=>rfl) Try.func27 (by kernel_rfl) (by kernel_rfl) (by kernel_rfl) (fun k=>les27)
  (fz) (fun k s0=> .nil)
  (F:=fun k s=>FX27 k s.1.1) (fun k s r h=>(e27 (FX35 k) s).trans (b27 k s.1.1 r h)) k
theorem b41l0 (k:Nat) (x0:Int) (x1:Int) (x6:Int):LeO (GX41l0 (k+1) x0 x1 x6) (B41l0 (GX41l1 k) x0 x1 x6):=by rw [GX41l0];exact LeO.refl _
theorem b41l1 (k:Nat) (x0:Int) (x1:Int) (x6:Int):LeO (GX41l1 (k+1) x0 x1 x6) (B41l1 (GX41l0 k) (GX41l1 k) x0 x1 x6):=by rw [GX41l1];exact LeO.refl _
theorem b41 (k:Nat) (x0:Int) (x1:Int):LeO (FX41 k x0 x1) (B41 (GX41l0 k) (FX20 k) (FX49 k) x0 x1):=LeO.refl _
theorem ok41 (k:Nat):FeOk Try.prog (fe41 (FX41 k)):=
 fe_ok EOK HM (es:=fun k=>fes41 (FX20 k) (FX49 k)) (fun k=>fc ⟨ok20 k,fc ⟨ok49 k,fz⟩⟩) (N:=53) (an:=an41) (c:=cd41) (rms:=rm41) (ask:=ask41) (rsk:=rsk41) (enc:=enc41) (dec:=dec41) (tbl:=[p41.getD 0 ⟨0,[], .skip⟩,p41.getD 1 ⟨0,[], .skip⟩]) (fun s=>rfl) Try.func41 (by kernel_rfl) (by kernel_rfl) (by kernel_rfl) (fun k=>les41 (GX41l0 k) (GX41l1 k))
  (fc ⟨fun s=>rfl,fc ⟨fun s=>rfl,fz⟩⟩) (fun k s0=> .cons (by kernel_rfl) (by kernel_rfl) (fun s r h=>(e41l0 (GX41l0 k) (GX41l1 k) (FX20 k) (FX49 k) s0 s).trans (b41l0 k s.1.1 s.1.2.1 s.1.2.2.1 r h)) (.cons (by kernel_rfl) (by kernel_rfl) (fun s r h=>(e41l1 (GX41l0 k) (GX41l1 k) (FX20 k) (FX49 k) s0 s).trans (b41l1 k s.1.1 s.1.2.1 s.1.2.2.1 r h)) (.nil)))
  (F:=fun k s=>FX41 k s.1.1 s.1.2.1) (fun k s r h=>(e41 (GX41l0 k) (GX41l1 k) (FX20 k) (FX49 k) s).trans (b41 k s.1.1 s.1.2.1 r h)) k
theorem b28l0 (k:Nat) (x0:Int) (x1:Int) (x5:Int):LeO (GX28l0 (k+1) x0 x1 x5) (B28l0 (GX28l0 k) (FX41 k) x0 x1 x5):=by rw [GX28l0];exact LeO.refl _
theorem b28 (k:Nat) (x0:Int) (x1:Int):LeO (FX28 k x0 x1) (B28 (GX28l0 k) x0 x1):=LeO.refl _
theorem ok28 (k:Nat):FeOk Try.prog (fe28 (FX28 k)):=
 fe_ok EOK HM (es:=fun k=>fes28 (FX41 k)) (fun k=>fc ⟨ok41 k,fz⟩) (N:=40) (an:=an28) (c:=cd28) (rms:=rm28) (ask:=ask28) (rsk:=rsk28) (enc:=enc28) (dec:=dec28) (tbl:=[p28.getD 0 ⟨0,[], .skip⟩]) (fun s=>rfl) Try.func28 (by kernel_rfl) (by kernel_rfl) (by kernel_rfl) (fun k=>les28 (GX28l0 k))
  (fc ⟨fun s=>rfl,fz⟩) (fun k s0=> .cons (by kernel_rfl) (by kernel_rfl) (fun s r h=>(e28l0 (GX28l0 k) (FX41 k) s0 s).trans (b28l0 k s.1.1 s.1.2.1 s.1.2.2.1 r h)) (.nil))
  (F:=fun k s=>FX28 k s.1.1 s.1.2.1) (fun k s r h=>(e28 (GX28l0 k) (FX41 k) s).trans (b28 k s.1.1 s.1.2.1 r h)) k
theorem b11 (k:Nat) (x0:Int) (x1:Int):LeO (FX11 k x0 x1) (B11 (FX25 k) (FX26 k) (FX27 k) (FX28 k) x0 x1):=LeO.refl _
theorem ok11 (k:Nat):FeOk Try.prog (fe11 (FX11 k)):=
 fe_ok EOK HM (es:=fun k=>fes11 (FX25 k) (FX26 k) (FX27 k) (FX28 k)) (fun k=>fc ⟨ok25 k,fc ⟨ok26 k,fc ⟨ok27 k,fc ⟨ok28 k,fz⟩⟩⟩⟩) (N:=28) (an:=an11) (c:=cd11) (rms:=rm11) (ask:=ask11) (rsk:=rsk11) (enc:=enc11) (dec:=dec11) (tbl:=[]) (fun s=>rfl) Try.func11 (by kernel_rfl) (by kernel_rfl) (by kernel_rfl) (fun k=>les11)
  (fz) (fun k s0=> .nil)
  (F:=fun k s=>FX11 k s.1.1 s.1.2.1) (fun k s r h=>(e11 (FX25 k) (FX26 k) (FX27 k) (FX28 k) s).trans (b11 k s.1.1 s.1.2.1 r h)) k
end Go.Proofs.YtfllafbphddooaaV
namespace Go.Proofs.YtfllafbphddooaaE
open Go.RowKit
theorem calls_of_ct {P:Program} {f:Nat} {fn:Func} {c:Code} (hf:P.funcs[f]?=some fn) (hname:(fn.name== "runtime.NumGoroutine")=false) (hb:fn.body=some c) {asx:List V} {r:V} {us:Bl} (h:Ct P f asx [] r us) {vs:List Value}
  (hv:∀w bl φ,RepVs w bl φ asx vs) (hr:∀w bl φ v,RepV w bl φ r v→v= .bool true) (w:World):Calls P f vs.toArray w fun e w'=>e= .returned (.bool true)∧Below w.heap.size w w':=by
 have hm:Mem w (lentBo [] (fun _=>⟨0,0,some 0⟩)) (fun _=> .fresh) (fun _=>⟨0,0,some 0⟩) w:=
  ⟨fun n=>trivial,(fun n m h=>by obtain⟨_,_,_,e⟩:=h;cases e),(fun n t l tl _ h=>by cases h),Frame'.refl _ _⟩
 rcases h.2 w (fun _=> .fresh) (fun _=>⟨0,0,some 0⟩) vs (fun n _=>rfl) hm (hv _ _ _)with⟨_,h1⟩| ⟨v,w',h1,_⟩
 ·refine h1.mono fun e w'=>?_
  rintro⟨v,rfl,φ',st,rv⟩
  have fr:=st.mem.fr
  refine⟨by rw [hr _ _ _ _ rv],fr.os,fr.tape,fr.output,fr.size,fun b hb=>fr.block b hb fun o h=>?_⟩
  obtain⟨n,t,l,tl,_,e,_⟩:=h
  cases e
 ·exfalso
  have e:(callFunc f vs.toArray).run P w= .ok (.enter f vs.toArray) w:=by simp only [callFunc,Sem.run_bind,run_program,Result.andThen_ok,hf,hname,hb,Option.isNone_some,Bool.false_eq_true,if_false,Sem.run_pure]
  rw [e]at h1;cases h1
theorem below_frame {w w':World} (h:Below w.heap.size w w'):Frame' w w' (fun _ _=>False):=by
 have hb:∀b,b<w.heap.size→w'.heap[b]?=w.heap[b]?:=h.block
 have hc:∀b o,b<w.heap.size→w'.cell? ⟨b,o,none⟩=w.cell? ⟨b,o,none⟩:=fun b o hl=>by unfold World.cell?;rw [hb b hl]
 exact⟨h.os,h.tape,h.output,h.size,fun b hl _=>hb b hl,fun b o hl _=>hc b o hl,fun b o hs=>by
  have hl:b<w.heap.size:=by
   obtain⟨v,hv⟩:=Option.isSome_iff_exists.1 hs
   exact cell_lt hv
  rw [hc b o hl];exact hs,fun b o hl=>by unfold World.frozen?;rw [hb b hl]⟩
theorem S_below {w0 w w':World} {Bo:Nat→Nat→Prop} {bl:Nat→Blk} {φ:Nat→Addr} (m:Mem w0 Bo bl φ w) (h:Below w.heap.size w w'):Step w0 Bo bl φ w bl φ w':=
 S_gen m (fun _=>False) (fun _ _=>⟨rfl,rfl⟩) (fun _ h=>h.elim) ((below_frame h).ext (fun _ _ _ h=>h.elim) fun _ _ h=>h) (fun n _ hl hs o v hv=>((below_frame h).cell _ _ (cell_lt hv) id).trans hv) (fun _ h=>h.elim) (fun _ _ h=>h.elim) (fun _ _ _ _ h=>h.elim) (m.fr.trans (below_frame h) fun _ _ _ h=>h.elim)
section
variable {w:World} {bl:Nat→Blk} {φ:Nat→Addr}
theorem rep_int {k:IntKind} {x:Int}:RepV w bl φ (.a (.v (.it k) x)) (.int k x):=⟨[.int k x],rfl,rfl⟩
theorem rep_true {v:Value} (h:RepV w bl φ (.a (.v .bo true)) v):v= .bool true:=by
 obtain⟨cs,h1,h2⟩:=h
 have h1:cs=[.bool true]:=h1
 subst h1
 have h2:[Value.bool true]=[v]:=h2
 cases h2;rfl
end
end Go.Proofs.YtfllafbphddooaaE
set_option maxRecDepth 100000
namespace Go.Proofs.YtfllafbphddooaaV
open Go Go.RowKit Ytfllafbphddooaa YtfllafbphddooaaE YtfllafbphddooaaW.PrintWords YtfllafbphddooaaW.PrintLast YtfllafbphddooaaW.PrintMore
noncomputable abbrev FX3 (k:Nat) (x0:Int) (x1:Int):Option R3:=B3 (FX4 k) (FX5 k) (FX6 k) (FX7 k) (FX8 k) (FX9 k) (FX10 k) (FX11 k) x0 x1
theorem b3 (k:Nat) (x0:Int) (x1:Int):LeO (FX3 k x0 x1) (B3 (FX4 k) (FX5 k) (FX6 k) (FX7 k) (FX8 k) (FX9 k) (FX10 k) (FX11 k) x0 x1):=LeO.refl _
theorem ok3 (k:Nat):FeOk Try.prog (fe3 (FX3 k)):=
 fe_ok EOK HM (es:=fun k=>fes3 (FX4 k) (FX5 k) (FX6 k) (FX7 k) (FX8 k) (FX9 k) (FX10 k) (FX11 k)) (fun k=>fc ⟨ok4 k,fc ⟨ok5 k,fc ⟨ok6 k,fc ⟨ok7 k,fc ⟨ok8 k,fc ⟨ok9 k,fc ⟨ok10 k,fc ⟨ok11 k,List.forall_mem_nil _⟩⟩⟩⟩⟩⟩⟩⟩) (N:=118) (an:=an3) (c:=cd3) (f:=3) (fn:=Try.f3) (rms:=rm3) (ask:=ask3) (rsk:=rsk3) (enc:=enc3) (dec:=dec3) (tbl:=[]) (fun s=>rfl) Try.func3 (by kernel_rfl) (by kernel_rfl) (by kernel_rfl) (fun k=>les3)
  (List.forall_mem_nil _) (fun k s0=> .nil)
  (F:=fun k s=>FX3 k s.1.1 s.1.2.1) (fun k s r h=>(e3 (FX4 k) (FX5 k) (FX6 k) (FX7 k) (FX8 k) (FX9 k) (FX10 k) (FX11 k) s).trans (b3 k s.1.1 s.1.2.1 r h)) k
theorem calls3 (a:Int) (b:Int) (h:∃k,FX3 k a b=some true) (w:World):
  Calls Try.prog 3 #[.int .u8 a, .int .u8 b] w fun e w'=>e= .returned (.bool true)∧Below w.heap.size w w':=by
 obtain⟨k,hk⟩:=h
 have hc:=ok3 k ((a,(b,())),()) true hk (.a (.v .bo true)) rfl
 exact calls_of_ct (vs:=[.int .u8 a, .int .u8 b]) Try.func3 (by kernel_rfl) (c:=cd3) (by kernel_rfl) hc (fun w bl φ=> .cons rep_int (.cons rep_int (.nil))) (fun w bl φ v h=>rep_true h) w
theorem odd_all:((List.range 256).all fun x=>decide (FX5 100 (x:Int)=FX5 100 ((x%8:Nat):Int)))=true:=by decide +kernel
theorem pair_all:((List.range 8).all fun i=>(List.range 8).all fun j=>decide (FX3 100 (i:Int) (j:Int)=some true))=true:=by decide +kernel
theorem odd_mod {x:Nat} (h:x<256):FX5 100 (x:Int)=FX5 100 ((x%8:Nat):Int):=
 of_decide_eq_true (List.all_eq_true.1 odd_all x (List.mem_range.2 h))
theorem pair_at {i j:Nat} (hi:i<8) (hj:j<8):FX3 100 (i:Int) (j:Int)=some true:=
 of_decide_eq_true (List.all_eq_true.1 (List.all_eq_true.1 pair_all i (List.mem_range.2 hi)) j (List.mem_range.2 hj))
theorem law3_at {x y:Nat} (hx:x<256) (hy:y<256):FX3 100 (x:Int) (y:Int)=some true:=by
 rw [←pair_at (Nat.mod_lt x (show 0<8 by decide)) (Nat.mod_lt y (show 0<8 by decide))]
 have h1:=odd_mod hx
 have h2:=odd_mod hy
 unfold FX3 B3
 rw [h1,h2]
theorem law3_ev (a b:Int) (ha:(Lit.int .u8 a).wf=true) (hb:(Lit.int .u8 b).wf=true):∃k,FX3 k a b=some true:=by
 simp only [Lit.wf,Bool.and_eq_true,decide_eq_true_eq]at ha hb
 have e1:IntKind.min .u8=0:=by decide
 have e2:IntKind.max .u8=255:=by decide
 obtain⟨x,rfl⟩:∃x:Nat,a=(x:Int):=⟨a.toNat,by omega⟩
 obtain⟨y,rfl⟩:∃y:Nat,b=(y:Int):=⟨b.toNat,by omega⟩
 exact⟨100,law3_at (by omega) (by omega)⟩
end Go.Proofs.YtfllafbphddooaaV
namespace Go.Proofs.Ytfllafbphddooaa.Pure
open Go Go.RowKit Go.Proofs.YtfllafbphddooaaW.PrintWords Go.Proofs.YtfllafbphddooaaW.PrintLast
theorem TopSplitting (a:Int) (ha:(Lit.int .u8 a).wf=true) (b:Int) (hb:(Lit.int .u8 b).wf=true) (w:World):
    Calls Try.prog 3 #[.int .u8 a, .int .u8 b] w fun e w'=>e= .returned (.bool true)∧Below w.heap.size w w':=
  Go.Proofs.YtfllafbphddooaaV.calls3 a b (Go.Proofs.YtfllafbphddooaaV.law3_ev a b ha hb) w
end Go.Proofs.Ytfllafbphddooaa.Pure
