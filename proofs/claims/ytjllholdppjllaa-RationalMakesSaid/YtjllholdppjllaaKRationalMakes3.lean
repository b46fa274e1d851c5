/- Part of the proof of the statement RationalMakes: lemmas on the model's steps, Lean functions that say what the program's functions compute, and proofs that the calls do just that. No hypothesis is added. -/
import Derived.Test.YtjllholdppjllaaKRationalMakes2
set_option linter.all false
set_option maxRecDepth 100000
namespace Go.Proofs.YtjllholdppjllaaV
open Go Go.RowKit YtjllholdppjllaaE YtjllholdppjllaaW.PrintWords YtjllholdppjllaaW.PrintLast YtjllholdppjllaaW.PrintMore
section
variable (gl0:ByteArray→Int→(List Int)→Option R57) (gl1:ByteArray→Int→Int→Int→(List Int)→Option R57) (c76:(List Int)→Option R76)
noncomputable def B57l0 (x0:ByteArray) (x4:Int) (x3:(List Int)):Option R57:=if x4>0 then(gl1 x0 x4 0 (mx 0 (wrap64 (x4-4))) x3)else((c76 x3).bind fun r1=>(some (r1.2.take (r1.1:Int).toNat)))
theorem e57l0 (s0:SbT ask57.bl) (s:k57l0.T):evPos E0 (orcOf (fes57 c76)) 34 an57 (loOf (les57 gl0 gl1)) (rk57 s0) (p57.getD 0 ⟨0,[], .skip⟩) (k57l0.mk' s)=B57l0 gl1 c76 s.1.1 s.1.2.1 s.2.1:=by kernel_rfl
noncomputable def B57l1 (x0:ByteArray) (x4:Int) (x5:Int) (x6:Int) (x3:(List Int)):Option R57:=if x6<x4 then(if 0≤x6 then(if x6<(x0.size:Int)then(gl1 x0 x4 (IntKind.u64.wrap ((IntKind.u64.wrap (x5*256))+(IntKind.u64.wrap (bt x0 x6)))) (wrap64 (x6+1)) x3)else(none))else(none))else(if(x3.length+1)*8≤140737488355328 then(gl0 x0 (wrap64 (x4-4)) (x3++([x5]:List Int)))else(none))
theorem e57l1 (s0:SbT ask57.bl) (s:k57l1.T):evPos E0 (orcOf (fes57 c76)) 34 an57 (loOf (les57 gl0 gl1)) (rk57 s0) (p57.getD 1 ⟨0,[], .skip⟩) (k57l1.mk' s)=B57l1 gl0 gl1 s.1.1 s.1.2.1 s.1.2.2.1 s.1.2.2.2.1 s.2.1:=by kernel_rfl
noncomputable def B57 (x0:ByteArray):Option R57:=gl0 x0 (x0.size:Int) ([]:List Int)
theorem e57 (s:ask57.T):evFn E0 (orcOf (fes57 c76)) an57 (loOf (les57 gl0 gl1)) 34 cd57 Try.f57.results.toList rm57 (ask57.mk' s) (decW rsk57 dec57)=B57 gl0 s.1.1:=by kernel_rfl
end
noncomputable def an58:Ann:=⟨[(5,[(0, .pt),(1, .any),(5, .any)])],[],[]⟩
noncomputable def cd58:Code:=(Try.f58.body).getD .skip
noncomputable def p58:List Pos:=posns an58 [] cd58
noncomputable def rm58:List RM:=[.d .bo]
noncomputable def rk58 (s0:SbT ask58.bl):KX R58:=retK E0 Try.f58.results.toList rm58 (mkB ask58.bl s0) (decW rsk58 dec58)
noncomputable def k58l0:Sk:=⟨[(0, .pre 2000),(1, .d (.li (.it .u64))),(5, .d (.it .i64))],[(2000, .own (.it .u64) false)]⟩
noncomputable def les58 (gl0:Int→(List Int)→Int→(List Int)→Option R58):List (LoE R58):=[⟨5,k58l0,fun s=>gl0 s.1.1 s.1.2.1 s.1.2.2.1 s.2.1⟩]
noncomputable def fes58 (c76:(List Int)→Option R76):List FE:=[(fe76 c76)]
section
variable (gl0:Int→(List Int)→Int→(List Int)→Option R58) (c76:(List Int)→Option R76)
noncomputable def B58l0 (x0:Int) (x1:(List Int)) (x5:Int) (y0:(List Int)):Option R58:=if x5≥0 then(if 0≤x5 then(if x5<x0-0 then(if 0≤x5 then(if x5<(x1.length:Int)then(if rd y0 (0+x5)≠rd x1 x5 then(if 0≤x5 then(if x5<x0-0 then(if 0≤x5 then(if x5<(x1.length:Int)then(some (decide (rd y0 (0+x5)<rd x1 x5),y0))else(none))else(none))else(none))else(none))else(gl0 x0 x1 (wrap64 (x5-1)) y0))else(none))else(none))else(none))else(none))else(some (false,y0))
theorem e58l0 (s0:SbT ask58.bl) (s:k58l0.T):evPos E0 (orcOf (fes58 c76)) 43 an58 (loOf (les58 gl0)) (rk58 s0) (p58.getD 0 ⟨0,[], .skip⟩) (k58l0.mk' s)=B58l0 gl0 s.1.1 s.1.2.1 s.1.2.2.1 s.2.1:=by kernel_rfl
noncomputable def B58 (x1:(List Int)) (y0:(List Int)):Option R58:=(c76 y0).bind fun r1=>(if r1.1-0≠(x1.length:Int)then(some (decide (r1.1-0<(x1.length:Int)),r1.2))else(gl0 r1.1 x1 (wrap64 ((r1.1-0)-1)) r1.2))
theorem e58 (s:ask58.T):evFn E0 (orcOf (fes58 c76)) an58 (loOf (les58 gl0)) 43 cd58 Try.f58.results.toList rm58 (ask58.mk' s) (decW rsk58 dec58)=B58 gl0 c76 s.1.1 s.2.1:=by kernel_rfl
end
noncomputable def an59:Ann:=⟨[(3,[(0, .any),(3, .own (.it .u8)),(4, .any)]),(6,[(0, .any),(3, .own (.it .u8)),(4, .any),(5, .any)])],[],[]⟩
noncomputable def cd59:Code:=(Try.f59.body).getD .skip
noncomputable def p59:List Pos:=posns an59 [] cd59
noncomputable def rm59:List RM:=[.d .st]
noncomputable def rk59 (s0:SbT ask59.bl):KX R59:=retK E0 Try.f59.results.toList rm59 (mkB ask59.bl s0) (decW rsk59 dec59)
noncomputable def k59l0:Sk:=⟨[(0, .d (.li (.it .u64))),(3, .f (.a (.ref 3))),(4, .d (.it .i64))],[(3, .own (.it .u8) true)]⟩
noncomputable def k59l1:Sk:=⟨[(0, .d (.li (.it .u64))),(3, .f (.a (.ref 3))),(4, .d (.it .i64)),(5, .d (.it .i64))],[(3, .own (.it .u8) true)]⟩
noncomputable def les59 (gl0:(List Int)→Int→(List Int)→Option R59) (gl1:(List Int)→Int→Int→(List Int)→Option R59):List (LoE R59):=[⟨3,k59l0,fun s=>gl0 s.1.1 s.1.2.1 s.2.1⟩,⟨6,k59l1,fun s=>gl1 s.1.1 s.1.2.1 s.1.2.2.1 s.2.1⟩]
noncomputable def fes59:List FE:=[]
section
variable (gl0:(List Int)→Int→(List Int)→Option R59) (gl1:(List Int)→Int→Int→(List Int)→Option R59)
noncomputable def B59l0 (x0:(List Int)) (x4:Int) (x3:(List Int)):Option R59:=if x4≥0 then(gl1 x0 x4 24 x3)else(some (strOfNums x3))
theorem e59l0 (s0:SbT ask59.bl) (s:k59l0.T):evPos E0 (orcOf (fes59)) 38 an59 (loOf (les59 gl0 gl1)) (rk59 s0) (p59.getD 0 ⟨0,[], .skip⟩) (k59l0.mk' s)=B59l0 gl1 s.1.1 s.1.2.1 s.2.1:=by kernel_rfl
noncomputable def B59l1 (x0:(List Int)) (x4:Int) (x5:Int) (x3:(List Int)):Option R59:=if x5≥0 then(if 0≤x4 then(if x4<(x0.length:Int)then(if 0≤x5 then(if(x3.length:Int)>0 then(if(x3.length+1)*1≤140737488355328 then(gl1 x0 x4 (wrap64 (x5-8)) (x3++([IntKind.u8.wrap (shr .u64 (rd x0 x4) x5)]:List Int)))else(none))else(if IntKind.u8.wrap (shr .u64 (rd x0 x4) x5)>0 then(if(x3.length+1)*1≤140737488355328 then(gl1 x0 x4 (wrap64 (x5-8)) (x3++([IntKind.u8.wrap (shr .u64 (rd x0 x4) x5)]:List Int)))else(none))else(gl1 x0 x4 (wrap64 (x5-8)) x3)))else(none))else(none))else(none))else(gl0 x0 (wrap64 (x4-1)) x3)
theorem e59l1 (s0:SbT ask59.bl) (s:k59l1.T):evPos E0 (orcOf (fes59)) 38 an59 (loOf (les59 gl0 gl1)) (rk59 s0) (p59.getD 1 ⟨0,[], .skip⟩) (k59l1.mk' s)=B59l1 gl0 gl1 s.1.1 s.1.2.1 s.1.2.2.1 s.2.1:=by kernel_rfl
noncomputable def B59 (x0:(List Int)):Option R59:=gl0 x0 (wrap64 ((x0.length:Int)-1)) ([]:List Int)
theorem e59 (s:ask59.T):evFn E0 (orcOf (fes59)) an59 (loOf (les59 gl0 gl1)) 38 cd59 Try.f59.results.toList rm59 (ask59.mk' s) (decW rsk59 dec59)=B59 gl0 s.1.1:=by kernel_rfl
end
noncomputable def an30:Ann:=⟨[(8,[(7, .val (.li (.it .u64))),(8, .any),(9, .any),(10, .any),(11, .any)]),(10,[(7, .any),(8, .any),(9, .any),(10, .any),(11, .any)]),(15,[(7, .val (.li (.it .u64))),(8, .any),(9, .any),(10, .any),(11, .any),(12, .any),(13, .any),(14, .any)])],[],[]⟩
noncomputable def cd30:Code:=(Try.f30.body).getD .skip
noncomputable def p30:List Pos:=posns an30 [] cd30
noncomputable def rm30:List RM:=[.d .st, .d .st]
noncomputable def rk30 (s0:SbT ask30.bl):KX R30:=retK E0 Try.f30.results.toList rm30 (mkB ask30.bl s0) (decW rsk30 dec30)
noncomputable def k30l0:Sk:=⟨[(7, .d (.li (.it .u64))),(8, .d (.it .i64)),(9, .f (.a (.ref 9))),(10, .f (.a (.ref 10))),(11, .d (.it .i64))],[(9, .own (.it .u64) true),(10, .own (.it .u64) true)]⟩
noncomputable def k30l1:Sk:=⟨[(7, .d (.li (.it .u64))),(8, .d (.it .i64)),(9, .f (.a (.ref 9))),(10, .f (.a (.ref 10))),(11, .d (.it .i64))],[(9, .own (.it .u64) true),(10, .own (.it .u64) true)]⟩
noncomputable def k30l2:Sk:=⟨[(7, .d (.li (.it .u64))),(8, .d (.it .i64)),(9, .f (.a (.ref 9))),(10, .f (.a (.ref 10))),(11, .d (.it .i64)),(12, .d (.it .u64)),(13, .d (.it .u64)),(14, .d (.it .i64))],[(9, .own (.it .u64) true),(10, .own (.it .u64) true)]⟩
noncomputable def les30 (gl0:(List Int)→Int→Int→(List Int)→(List Int)→Option R30) (gl1:(List Int)→Int→Int→(List Int)→(List Int)→Option R30) (gl2:(List Int)→Int→Int→Int→Int→Int→(List Int)→(List Int)→Option R30):List (LoE R30):=[⟨8,k30l0,fun s=>gl0 s.1.1 s.1.2.1 s.1.2.2.1 s.2.1 s.2.2.1⟩,⟨10,k30l1,fun s=>gl1 s.1.1 s.1.2.1 s.1.2.2.1 s.2.1 s.2.2.1⟩,⟨15,k30l2,fun s=>gl2 s.1.1 s.1.2.1 s.1.2.2.1 s.1.2.2.2.1 s.1.2.2.2.2.1 s.1.2.2.2.2.2.1 s.2.1 s.2.2.1⟩]
noncomputable def fes30 (c57:ByteArray→Option R57) (c58:(List Int)→(List Int)→Option R58) (c59:(List Int)→Option R59):List FE:=[(fe57 c57),(fe58 c58),(fe59 c59)]
section
variable (gl0:(List Int)→Int→Int→(List Int)→(List Int)→Option R30) (gl1:(List Int)→Int→Int→(List Int)→(List Int)→Option R30) (gl2:(List Int)→Int→Int→Int→Int→Int→(List Int)→(List Int)→Option R30) (c57:ByteArray→Option R57) (c58:(List Int)→(List Int)→Option R58) (c59:(List Int)→Option R59)
noncomputable def B30l0 (x7:(List Int)) (x8:Int) (x11:Int) (x9:(List Int)) (x10:(List Int)):Option R30:=if x11≥0 then(gl1 x7 x8 x11 x9 x10)else((c59 x10).bind fun r1=>((c59 x9).bind fun r2=>(some (r1,r2))))
theorem e30l0 (s0:SbT ask30.bl) (s:k30l0.T):evPos E0 (orcOf (fes30 c57 c58 c59)) 148 an30 (loOf (les30 gl0 gl1 gl2)) (rk30 s0) (p30.getD 0 ⟨0,[], .skip⟩) (k30l0.mk' s)=B30l0 gl1 c59 s.1.1 s.1.2.1 s.1.2.2.1 s.2.1 s.2.2.1:=by kernel_rfl
noncomputable def B30l1 (x7:(List Int)) (x8:Int) (x11:Int) (x9:(List Int)) (x10:(List Int)):Option R30:=if 0≤x11 then(if x11≤(x9.length:Int)then(if(x9.length:Int)≤(x9.length:Int)then(if(x9.length:Int)≤(x9.length:Int)then((c58 x7 (slice_ x9 x11 (x9.length:Int))).bind fun r1=>(cnd ((!r1.1)) (if 0≤wrap64 (x11+x8)then(if wrap64 (x11+x8)<((x9.take ((x11:Int).toNat)++r1.2++x9.drop (((x9.length:Int):Int).toNat)).length:Int)then(if(0:Int)≤32 then(if 0≤wrap64 ((wrap64 (x11+x8))-1)then(if wrap64 ((wrap64 (x11+x8))-1)<((x9.take ((x11:Int).toNat)++r1.2++x9.drop (((x9.length:Int):Int).toNat)).length:Int)then(if 0≤wrap64 (x8-1)then(if wrap64 (x8-1)<(x7.length:Int)then(if IntKind.u64.wrap ((rd x7 (wrap64 (x8-1)))+1)=0 then(none)else(if 0≤x11 then(if x11<(x10.length:Int)then(if 0≤x11 then(if x11<(x10.length:Int)then(gl2 x7 x8 x11 (mx 1 (IntKind.u64.wrap (Int.tdiv (IntKind.u64.wrap ((IntKind.u64.wrap ((rd (x9.take ((x11:Int).toNat)++r1.2++x9.drop (((x9.length:Int):Int).toNat)) (wrap64 (x11+x8)))*4294967296))+(rd (x9.take ((x11:Int).toNat)++r1.2++x9.drop (((x9.length:Int):Int).toNat)) (wrap64 ((wrap64 (x11+x8))-1))))) (IntKind.u64.wrap ((rd x7 (wrap64 (x8-1)))+1))))) 0 0 (x9.take ((x11:Int).toNat)++r1.2++x9.drop (((x9.length:Int):Int).toNat)) (x10.set (x11:Int).toNat (IntKind.u64.wrap ((rd x10 x11)+(mx 1 (IntKind.u64.wrap (Int.tdiv (IntKind.u64.wrap ((IntKind.u64.wrap ((rd (x9.take ((x11:Int).toNat)++r1.2++x9.drop (((x9.length:Int):Int).toNat)) (wrap64 (x11+x8)))*4294967296))+(rd (x9.take ((x11:Int).toNat)++r1.2++x9.drop (((x9.length:Int):Int).toNat)) (wrap64 ((wrap64 (x11+x8))-1))))) (IntKind.u64.wrap ((rd x7 (wrap64 (x8-1)))+1)))))))))else(none))else(none))else(none))else(none)))else(none))else(none))else(none))else(none))else(none))else(none))else(none)) (gl0 x7 x8 (wrap64 (x11-1)) (x9.take ((x11:Int).toNat)++r1.2++x9.drop (((x9.length:Int):Int).toNat)) x10)))else(none))else(none))else(none))else(none)
theorem e30l1 (s0:SbT ask30.bl) (s:k30l1.T):evPos E0 (orcOf (fes30 c57 c58 c59)) 148 an30 (loOf (les30 gl0 gl1 gl2)) (rk30 s0) (p30.getD 1 ⟨0,[], .skip⟩) (k30l1.mk' s)=B30l1 gl0 gl2 c58 s.1.1 s.1.2.1 s.1.2.2.1 s.2.1 s.2.2.1:=by kernel_rfl
noncomputable def B30l2 (x7:(List Int)) (x8:Int) (x11:Int) (x12:Int) (x13:Int) (x14:Int) (x9:(List Int)) (x10:(List Int)):Option R30:=if x14<x8 then(if 0≤x14 then(if x14<(x7.length:Int)then(if(0:Int)≤32 then(if 0≤wrap64 (x11+x14)then(if wrap64 (x11+x14)<(x9.length:Int)then(if rd x9 (wrap64 (x11+x14))<Go.bits .and .u64 (IntKind.u64.wrap ((IntKind.u64.wrap ((rd x7 x14)*x12))+x13)) 4294967295 then(if 0≤wrap64 (x11+x14)then(if wrap64 (x11+x14)<(x9.length:Int)then(if 0≤wrap64 (x11+x14)then(if wrap64 (x11+x14)<(x9.length:Int)then(if 0≤wrap64 (x11+x14)then(if wrap64 (x11+x14)<((x9.set (wrap64 (x11+x14):Int).toNat (IntKind.u64.wrap ((rd x9 (wrap64 (x11+x14)))+4294967296))).length:Int)then(if 0≤wrap64 (x11+x14)then(if wrap64 (x11+x14)<((x9.set (wrap64 (x11+x14):Int).toNat (IntKind.u64.wrap ((rd x9 (wrap64 (x11+x14)))+4294967296))).length:Int)then(gl2 x7 x8 x11 x12 (IntKind.u64.wrap (((IntKind.u64.wrap ((IntKind.u64.wrap ((rd x7 x14)*x12))+x13))/4294967296)+1)) (wrap64 (x14+1)) ((x9.set (wrap64 (x11+x14):Int).toNat (IntKind.u64.wrap ((rd x9 (wrap64 (x11+x14)))+4294967296))).set (wrap64 (x11+x14):Int).toNat (IntKind.u64.wrap ((rd (x9.set (wrap64 (x11+x14):Int).toNat (IntKind.u64.wrap ((rd x9 (wrap64 (x11+x14)))+4294967296))) (wrap64 (x11+x14)))-(Go.bits .and .u64 (IntKind.u64.wrap ((IntKind.u64.wrap ((rd x7 x14)*x12))+x13)) 4294967295)))) x10)else(none))else(none))else(none))else(none))else(none))else(none))else(none))else(none))else(if 0≤wrap64 (x11+x14)then(if wrap64 (x11+x14)<(x9.length:Int)then(if 0≤wrap64 (x11+x14)then(if wrap64 (x11+x14)<(x9.length:Int)then(gl2 x7 x8 x11 x12 ((IntKind.u64.wrap ((IntKind.u64.wrap ((rd x7 x14)*x12))+x13))/4294967296) (wrap64 (x14+1)) (x9.set (wrap64 (x11+x14):Int).toNat (IntKind.u64.wrap ((rd x9 (wrap64 (x11+x14)))-(Go.bits .and .u64 (IntKind.u64.wrap ((IntKind.u64.wrap ((rd x7 x14)*x12))+x13)) 4294967295)))) x10)else(none))else(none))else(none))else(none)))else(none))else(none))else(none))else(none))else(none))else(if 0≤wrap64 (x11+x8)then(if wrap64 (x11+x8)<(x9.length:Int)then(if 0≤wrap64 (x11+x8)then(if wrap64 (x11+x8)<(x9.length:Int)then(gl1 x7 x8 x11 (x9.set (wrap64 (x11+x8):Int).toNat (IntKind.u64.wrap ((rd x9 (wrap64 (x11+x8)))-x13))) x10)else(none))else(none))else(none))else(none))
theorem e30l2 (s0:SbT ask30.bl) (s:k30l2.T):evPos E0 (orcOf (fes30 c57 c58 c59)) 148 an30 (loOf (les30 gl0 gl1 gl2)) (rk30 s0) (p30.getD 2 ⟨0,[], .skip⟩) (k30l2.mk' s)=B30l2 gl1 gl2 s.1.1 s.1.2.1 s.1.2.2.1 s.1.2.2.2.1 s.1.2.2.2.2.1 s.1.2.2.2.2.2.1 s.2.1 s.2.2.1:=by kernel_rfl
noncomputable def B30 (x0:ByteArray) (x1:ByteArray):Option R30:=cnd ((x1.toList==(⟨#[]⟩:ByteArray).toList)) (some ((⟨#[]⟩:ByteArray),(⟨#[]⟩:ByteArray))) ((c57 x0).bind fun r1=>((c57 x1).bind fun r2=>(if(r1.length+1)*8≤140737488355328 then(if 0≤mx 0 (wrap64 ((wrap64 ((r1.length:Int)-(r2.length:Int)))+1))then(if mx 0 (wrap64 ((wrap64 ((r1.length:Int)-(r2.length:Int)))+1))≤mx 0 (wrap64 ((wrap64 ((r1.length:Int)-(r2.length:Int)))+1))then(if(mx 0 (wrap64 ((wrap64 ((r1.length:Int)-(r2.length:Int)))+1)):Int).toNat≤35184372088832 then(gl0 r2 (r2.length:Int) (wrap64 (((List.replicate (mx 0 (wrap64 ((wrap64 ((r1.length:Int)-(r2.length:Int)))+1)):Int).toNat (0:Int)).length:Int)-1)) (r1++([0]:List Int)) (List.replicate (mx 0 (wrap64 ((wrap64 ((r1.length:Int)-(r2.length:Int)))+1)):Int).toNat (0:Int)))else(none))else(none))else(none))else(none))))
theorem e30 (s:ask30.T):evFn E0 (orcOf (fes30 c57 c58 c59)) an30 (loOf (les30 gl0 gl1 gl2)) 148 cd30 Try.f30.results.toList rm30 (ask30.mk' s) (decW rsk30 dec30)=B30 gl0 c57 s.1.1 s.1.2.1:=by kernel_rfl
end
noncomputable def an29:Ann:=⟨[(1,[(0, .any),(1, .any)])],[],[]⟩
noncomputable def cd29:Code:=(Try.f29.body).getD .skip
noncomputable def p29:List Pos:=posns an29 [] cd29
noncomputable def rm29:List RM:=[.d .st]
noncomputable def rk29 (s0:SbT ask29.bl):KX R29:=retK E0 Try.f29.results.toList rm29 (mkB ask29.bl s0) (decW rsk29 dec29)
noncomputable def k29l0:Sk:=⟨[(0, .d .st),(1, .d .st)],[]⟩
noncomputable def les29 (gl0:ByteArray→ByteArray→Option R29):List (LoE R29):=[⟨1,k29l0,fun s=>gl0 s.1.1 s.1.2.1⟩]
noncomputable def fes29 (c30:ByteArray→ByteArray→Option R30):List FE:=[(fe30 c30)]
section
variable (gl0:ByteArray→ByteArray→Option R29) (c30:ByteArray→ByteArray→Option R30)
noncomputable def B29l0 (x0:ByteArray) (x1:ByteArray):Option R29:=cnd ((!(x1.toList==(⟨#[]⟩:ByteArray).toList))) ((c30 x0 x1).bind fun r1=>(gl0 x1 r1.2)) (some x0)
theorem e29l0 (s0:SbT ask29.bl) (s:k29l0.T):evPos E0 (orcOf (fes29 c30)) 18 an29 (loOf (les29 gl0)) (rk29 s0) (p29.getD 0 ⟨0,[], .skip⟩) (k29l0.mk' s)=B29l0 gl0 c30 s.1.1 s.1.2.1:=by kernel_rfl
noncomputable def B29 (x0:ByteArray) (x1:ByteArray):Option R29:=gl0 x0 x1
theorem e29 (s:ask29.T):evFn E0 (orcOf (fes29 c30)) an29 (loOf (les29 gl0)) 18 cd29 Try.f29.results.toList rm29 (ask29.mk' s) (decW rsk29 dec29)=B29 gl0 s.1.1 s.1.2.1:=by kernel_rfl
end
noncomputable def an31:Ann:=⟨[],[],[]⟩
noncomputable def cd31:Code:=(Try.f31.body).getD .skip
noncomputable def rm31:List RM:=[.d (.ag (.pr .bo .st))]
noncomputable def les31:List (LoE R31):=[]
noncomputable def fes31:List FE:=[]
noncomputable def B31 (x0:Bool) (x1:ByteArray):Option R31:=cnd (x0) (some ((!(x1.toList==(⟨#[]⟩:ByteArray).toList)),x1)) (some (false,x1))
theorem e31 (s:ask31.T):evFn E0 (orcOf (fes31)) an31 (loOf (les31)) 12 cd31 Try.f31.results.toList rm31 (ask31.mk' s) (decW rsk31 dec31)=B31 s.1.1 s.1.2.1:=by kernel_rfl
noncomputable def an12:Ann:=⟨[],[],[]⟩
noncomputable def cd12:Code:=(Try.f12.body).getD .skip
noncomputable def rm12:List RM:=[.d (.ag (.pr (.ag (.pr .bo .st)) .st))]
noncomputable def les12:List (LoE R12):=[]
noncomputable def fes12 (c29:ByteArray→ByteArray→Option R29) (c30:ByteArray→ByteArray→Option R30) (c31:Bool→ByteArray→Option R31):List FE:=[(fe29 c29),(fe30 c30),(fe31 c31)]
section
variable (c29:ByteArray→ByteArray→Option R29) (c30:ByteArray→ByteArray→Option R30) (c31:Bool→ByteArray→Option R31)
noncomputable def B12 (x0:TI) (x1:TI):Option R12:=cnd ((x1.2.toList==(⟨#[]⟩:ByteArray).toList)) (some ((false,(⟨#[]⟩:ByteArray)),(⟨#[1]⟩:ByteArray))) ((c29 x0.2 x1.2).bind fun r1=>((c30 x0.2 r1).bind fun r2=>((c30 x1.2 r1).bind fun r3=>((c31 (!(x0.1==x1.1)) r2.1).bind fun r4=>(some ((r4.1,r4.2),r3.1))))))
theorem e12 (s:ask12.T):evFn E0 (orcOf (fes12 c29 c30 c31)) an12 (loOf (les12)) 42 cd12 Try.f12.results.toList rm12 (ask12.mk' s) (decW rsk12 dec12)=B12 c29 c30 c31 s.1.1 s.1.2.1:=by kernel_rfl
end
noncomputable def an47:Ann:=⟨[],[],[]⟩
noncomputable def cd47:Code:=(Try.f47.body).getD .skip
noncomputable def rm47:List RM:=[.d .st]
noncomputable def les47:List (LoE R47):=[]
noncomputable def fes47 (c59:(List Int)→Option R59):List FE:=[(fe59 c59)]
section
variable (c59:(List Int)→Option R59)
noncomputable def B47 (x0:Int):Option R47:=if(0:Int)≤32 then((c59 ([Go.bits .and .u64 x0 4294967295,x0/4294967296]:List Int)).bind fun r1=>(some r1))else(none)
theorem e47 (s:ask47.T):evFn E0 (orcOf (fes47 c59)) an47 (loOf (les47)) 9 cd47 Try.f47.results.toList rm47 (ask47.mk' s) (decW rsk47 dec47)=B47 c59 s.1.1:=by kernel_rfl
end
noncomputable def an19:Ann:=⟨[],[],[]⟩
noncomputable def cd19:Code:=(Try.f19.body).getD .skip
noncomputable def rm19:List RM:=[.d (.ag (.pr .bo .st))]
noncomputable def les19:List (LoE R19):=[]
noncomputable def fes19 (c47:Int→Option R47):List FE:=[(fe47 c47)]
section
variable (c47:Int→Option R47)
noncomputable def B19 (x0:Int):Option R19:=if x0<0 then((c47 (IntKind.u64.wrap ((IntKind.u64.wrap (wrap64 (0-(wrap64 (x0+1)))))+1))).bind fun r1=>(some (true,r1)))else((c47 (IntKind.u64.wrap (x0))).bind fun r2=>(some (false,r2)))
theorem e19 (s:ask19.T):evFn E0 (orcOf (fes19 c47)) an19 (loOf (les19)) 16 cd19 Try.f19.results.toList rm19 (ask19.mk' s) (decW rsk19 dec19)=B19 c47 s.1.1:=by kernel_rfl
end
noncomputable def an26:Ann:=⟨[],[],[]⟩
noncomputable def cd26:Code:=(Try.f26.body).getD .skip
noncomputable def rm26:List RM:=[.d (.ag (.pr (.ag (.pr .bo .st)) .st))]
noncomputable def les26:List (LoE R26):=[]
noncomputable def fes26 (c12:TI→TI→Option R12) (c19:Int→Option R19):List FE:=[(fe12 c12),(fe19 c19)]
section
variable (c12:TI→TI→Option R12) (c19:Int→Option R19)
noncomputable def B26 (x0:Int) (x1:Int):Option R26:=(c19 x0).bind fun r1=>((c19 x1).bind fun r2=>((c12 (r1.1,r1.2) (r2.1,r2.2)).bind fun r3=>(some (r3.1,r3.2))))
theorem e26 (s:ask26.T):evFn E0 (orcOf (fes26 c12 c19)) an26 (loOf (les26)) 10 cd26 Try.f26.results.toList rm26 (ask26.mk' s) (decW rsk26 dec26)=B26 c12 c19 s.1.1 s.1.2.1:=by kernel_rfl
end
noncomputable def an9:Ann:=⟨[],[],[]⟩
noncomputable def cd9:Code:=(Try.f9.body).getD .skip
noncomputable def rm9:List RM:=[.d (.ag (.pr (.ag (.pr .bo .st)) .st))]
noncomputable def les9:List (LoE R9):=[]
noncomputable def fes9 (c26:Int→Int→Option R26):List FE:=[(fe26 c26)]
section
variable (c26:Int→Int→Option R26)
noncomputable def B9 (x0:Int) (x1:Int):Option R9:=(c26 x0 x1).bind fun r1=>(some (r1.1,r1.2))
theorem e9 (s:ask9.T):evFn E0 (orcOf (fes9 c26)) an9 (loOf (les9)) 8 cd9 Try.f9.results.toList rm9 (ask9.mk' s) (decW rsk9 dec9)=B9 c26 s.1.1 s.1.2.1:=by kernel_rfl
end
noncomputable def an51:Ann:=⟨[],[],[]⟩
noncomputable def cd51:Code:=(Try.f51.body).getD .skip
noncomputable def rm51:List RM:=[.d .bo]
noncomputable def les51:List (LoE R51):=[]
noncomputable def fes51:List FE:=[]
noncomputable def B51 (x0:TQ):Option R51:=if(x0.1.2.size:Int)>1024 then(some true)else(some (decide ((x0.2.size:Int)>1024)))
theorem e51 (s:ask51.T):evFn E0 (orcOf (fes51)) an51 (loOf (les51)) 14 cd51 Try.f51.results.toList rm51 (ask51.mk' s) (decW rsk51 dec51)=B51 s.1.1:=by kernel_rfl
noncomputable def an22:Ann:=⟨[],[],[]⟩
noncomputable def cd22:Code:=(Try.f22.body).getD .skip
noncomputable def rm22:List RM:=[.d (.ag (.pr (.ag (.pr .bo .st)) .st)), .d (.it .i64)]
noncomputable def les22:List (LoE R22):=[]
noncomputable def fes22 (c51:TQ→Option R51):List FE:=[(fe51 c51)]
section
variable (c51:TQ→Option R51)
noncomputable def B22 (x0:TQ):Option R22:=(c51 x0).bind fun r1=>(cnd (r1) (some ((false,(⟨#[]⟩:ByteArray)),(⟨#[]⟩:ByteArray),4)) (some (x0.1,x0.2,0)))
theorem e22 (s:ask22.T):evFn E0 (orcOf (fes22 c51)) an22 (loOf (les22)) 8 cd22 Try.f22.results.toList rm22 (ask22.mk' s) (decW rsk22 dec22)=B22 c51 s.1.1:=by kernel_rfl
end
noncomputable def an24:Ann:=⟨[],[],[]⟩
noncomputable def cd24:Code:=(Try.f24.body).getD .skip
noncomputable def rm24:List RM:=[.d (.ag (.pr (.ag (.pr .bo .st)) .st))]
noncomputable def les24:List (LoE R24):=[]
noncomputable def fes24:List FE:=[]
noncomputable def B24 (x0:TI):Option R24:=some (x0,(⟨#[1]⟩:ByteArray))
theorem e24 (s:ask24.T):evFn E0 (orcOf (fes24)) an24 (loOf (les24)) 5 cd24 Try.f24.results.toList rm24 (ask24.mk' s) (decW rsk24 dec24)=B24 s.1.1:=by kernel_rfl
noncomputable def an69:Ann:=⟨[(7,[(5, .any),(6, .any),(7, .any),(8, .any),(27, .any),(28, .any)])],[],[]⟩
noncomputable def cd69:Code:=(Try.f69.body).getD .skip
noncomputable def p69:List Pos:=posns an69 [] cd69
noncomputable def rm69:List RM:=[.d .st]
noncomputable def rk69 (s0:SbT ask69.bl):KX R69:=retK E0 Try.f69.results.toList rm69 (mkB ask69.bl s0) (decW rsk69 dec69)
noncomputable def k69l0:Sk:=⟨[(5, .f (.a (.ref 5))),(6, .f (.a (.ref 6))),(7, .f (.a (.ref 7))),(8, .d (.it .u64)),(27, .d (.it .i64)),(28, .d (.it .i64))],[(5, .own (.it .u64) true),(6, .own (.it .u64) true),(7, .own (.it .u64) true)]⟩
noncomputable def les69 (gl0:Int→Int→Int→(List Int)→(List Int)→(List Int)→Option R69):List (LoE R69):=[⟨7,k69l0,fun s=>gl0 s.1.1 s.1.2.1 s.1.2.2.1 s.2.1 s.2.2.1 s.2.2.2.1⟩]
noncomputable def fes69 (c73:ByteArray→Option R73) (c75:(List Int)→Option R75) (c83:Int→Int→Int→Option R83):List FE:=[(fe73 c73),(fe75 c75),(fe83 c83)]
section
variable (gl0:Int→Int→Int→(List Int)→(List Int)→(List Int)→Option R69) (c73:ByteArray→Option R73) (c75:(List Int)→Option R75) (c83:Int→Int→Int→Option R83)
noncomputable def B69l0 (x8:Int) (x27:Int) (x28:Int) (x5:(List Int)) (x6:(List Int)) (x7:(List Int)):Option R69:=if x28<x27 then(if x28<(x6.length:Int)then(if 0≤x28 then(if x28<(x6.length:Int)then(if 0≤x28 then(if x28<(x5.length:Int)then((c83 (rd x5 x28) (rd x6 x28) x8).bind fun r1=>(if 0≤x28 then(if x28<(x7.length:Int)then(gl0 r1.2 x27 (wrap64 (x28+1)) x5 x6 (x7.set (x28:Int).toNat r1.1))else(none))else(none)))else(none))else(none))else(none))else(none))else(if 0≤x28 then(if x28<(x5.length:Int)then((c83 (rd x5 x28) 0 x8).bind fun r2=>(if 0≤x28 then(if x28<(x7.length:Int)then(gl0 r2.2 x27 (wrap64 (x28+1)) x5 x6 (x7.set (x28:Int).toNat r2.1))else(none))else(none)))else(none))else(none)))else(if 0≤(x5.length:Int)then(if(x5.length:Int)<(x7.length:Int)then((c75 (x7.set ((x5.length:Int):Int).toNat x8)).bind fun r3=>(some r3))else(none))else(none))
theorem e69l0 (s0:SbT ask69.bl) (s:k69l0.T):evPos E0 (orcOf (fes69 c73 c75 c83)) 60 an69 (loOf (les69 gl0)) (rk69 s0) (p69.getD 0 ⟨0,[], .skip⟩) (k69l0.mk' s)=B69l0 gl0 c75 c83 s.1.1 s.1.2.1 s.1.2.2.1 s.2.1 s.2.2.1 s.2.2.2.1:=by kernel_rfl
noncomputable def B69 (x0:ByteArray) (x1:ByteArray):Option R69:=(c73 x0).bind fun r1=>((c73 x1).bind fun r2=>(if(r1.length:Int)<(r2.length:Int)then(if 0≤wrap64 ((r2.length:Int)+1)then(if wrap64 ((r2.length:Int)+1)≤wrap64 ((r2.length:Int)+1)then(if(wrap64 ((r2.length:Int)+1):Int).toNat≤35184372088832 then(gl0 0 (r2.length:Int) 0 r2 r1 (List.replicate (wrap64 ((r2.length:Int)+1):Int).toNat (0:Int)))else(none))else(none))else(none))else(if 0≤wrap64 ((r1.length:Int)+1)then(if wrap64 ((r1.length:Int)+1)≤wrap64 ((r1.length:Int)+1)then(if(wrap64 ((r1.length:Int)+1):Int).toNat≤35184372088832 then(gl0 0 (r1.length:Int) 0 r1 r2 (List.replicate (wrap64 ((r1.length:Int)+1):Int).toNat (0:Int)))else(none))else(none))else(none))))
theorem e69 (s:ask69.T):evFn E0 (orcOf (fes69 c73 c75 c83)) an69 (loOf (les69 gl0)) 60 cd69 Try.f69.results.toList rm69 (ask69.mk' s) (decW rsk69 dec69)=B69 gl0 c73 s.1.1 s.1.2.1:=by kernel_rfl
end
noncomputable def an77:Ann:=⟨[],[],[]⟩
noncomputable def cd77:Code:=(Try.f77.body).getD .skip
noncomputable def rm77:List RM:=[.d (.it .i64)]
noncomputable def les77:List (LoE R77):=[]
noncomputable def fes77:List FE:=[]
noncomputable def B77 (x0:ByteArray) (x1:ByteArray):Option R77:=if(x0.size:Int)<(x1.size:Int)then(some (-1))else(if(x0.size:Int)=(x1.size:Int)then(cnd ((Op.bytesLess x0.toList x1.toList)) (some (-1)) (cnd ((x0.toList==x1.toList)) (some 0) (some 1)))else(cnd ((x0.toList==x1.toList)) (some 0) (some 1)))
theorem e77 (s:ask77.T):evFn E0 (orcOf (fes77)) an77 (loOf (les77)) 27 cd77 Try.f77.results.toList rm77 (ask77.mk' s) (decW rsk77 dec77)=B77 s.1.1 s.1.2.1:=by kernel_rfl
noncomputable def an78:Ann:=⟨[(4,[(5, .any),(6, .any),(7, .any),(15, .any),(16, .any)])],[],[]⟩
noncomputable def cd78:Code:=(Try.f78.body).getD .skip
noncomputable def p78:List Pos:=posns an78 [] cd78
noncomputable def rm78:List RM:=[.d .st]
noncomputable def rk78 (s0:SbT ask78.bl):KX R78:=retK E0 Try.f78.results.toList rm78 (mkB ask78.bl s0) (decW rsk78 dec78)
noncomputable def k78l0:Sk:=⟨[(5, .f (.a (.ref 5))),(6, .f (.a (.ref 6))),(7, .d (.it .u64)),(15, .d (.it .i64)),(16, .d (.it .i64))],[(5, .own (.it .u64) true),(6, .own (.it .u64) true)]⟩
noncomputable def les78 (gl0:Int→Int→Int→(List Int)→(List Int)→Option R78):List (LoE R78):=[⟨4,k78l0,fun s=>gl0 s.1.1 s.1.2.1 s.1.2.2.1 s.2.1 s.2.2.1⟩]
noncomputable def fes78 (c73:ByteArray→Option R73) (c75:(List Int)→Option R75) (c90:Int→Int→Int→Option R90):List FE:=[(fe73 c73),(fe75 c75),(fe90 c90)]
section
variable (gl0:Int→Int→Int→(List Int)→(List Int)→Option R78) (c73:ByteArray→Option R73) (c75:(List Int)→Option R75) (c90:Int→Int→Int→Option R90)
noncomputable def B78l0 (x7:Int) (x15:Int) (x16:Int) (x5:(List Int)) (x6:(List Int)):Option R78:=if x16<x15 then(if x16<(x6.length:Int)then(if 0≤x16 then(if x16<(x6.length:Int)then(if 0≤x16 then(if x16<(x5.length:Int)then((c90 (rd x5 x16) (rd x6 x16) x7).bind fun r1=>(if 0≤x16 then(if x16<(x5.length:Int)then(gl0 r1.2 x15 (wrap64 (x16+1)) (x5.set (x16:Int).toNat r1.1) x6)else(none))else(none)))else(none))else(none))else(none))else(none))else(if 0≤x16 then(if x16<(x5.length:Int)then((c90 (rd x5 x16) 0 x7).bind fun r2=>(if 0≤x16 then(if x16<(x5.length:Int)then(gl0 r2.2 x15 (wrap64 (x16+1)) (x5.set (x16:Int).toNat r2.1) x6)else(none))else(none)))else(none))else(none)))else((c75 x5).bind fun r3=>(some r3))
theorem e78l0 (s0:SbT ask78.bl) (s:k78l0.T):evPos E0 (orcOf (fes78 c73 c75 c90)) 43 an78 (loOf (les78 gl0)) (rk78 s0) (p78.getD 0 ⟨0,[], .skip⟩) (k78l0.mk' s)=B78l0 gl0 c75 c90 s.1.1 s.1.2.1 s.1.2.2.1 s.2.1 s.2.2.1:=by kernel_rfl
noncomputable def B78 (x0:ByteArray) (x1:ByteArray):Option R78:=(c73 x0).bind fun r1=>((c73 x1).bind fun r2=>(gl0 0 (r1.length:Int) 0 r1 r2))
theorem e78 (s:ask78.T):evFn E0 (orcOf (fes78 c73 c75 c90)) an78 (loOf (les78 gl0)) 43 cd78 Try.f78.results.toList rm78 (ask78.mk' s) (decW rsk78 dec78)=B78 gl0 c73 s.1.1 s.1.2.1:=by kernel_rfl
end
noncomputable def an60:Ann:=⟨[],[],[]⟩
noncomputable def cd60:Code:=(Try.f60.body).getD .skip
noncomputable def rm60:List RM:=[.d (.ag (.pr .bo .st))]
noncomputable def les60:List (LoE R60):=[]
noncomputable def fes60 (c54:Bool→ByteArray→Option R54) (c69:ByteArray→ByteArray→Option R69) (c77:ByteArray→ByteArray→Option R77) (c78:ByteArray→ByteArray→Option R78):List FE:=[(fe54 c54),(fe69 c69),(fe77 c77),(fe78 c78)]
section
variable (c54:Bool→ByteArray→Option R54) (c69:ByteArray→ByteArray→Option R69) (c77:ByteArray→ByteArray→Option R77) (c78:ByteArray→ByteArray→Option R78)
noncomputable def B60 (x0:TI) (x1:TI):Option R60:=cnd ((x0.1==x1.1)) ((c69 x0.2 x1.2).bind fun r1=>((c54 x0.1 r1).bind fun r2=>(some (r2.1,r2.2)))) ((c77 x0.2 x1.2).bind fun r3=>(if r3<0 then((c78 x1.2 x0.2).bind fun r4=>((c54 x1.1 r4).bind fun r5=>(some (r5.1,r5.2))))else((c78 x0.2 x1.2).bind fun r6=>((c54 x0.1 r6).bind fun r7=>(some (r7.1,r7.2))))))
theorem e60 (s:ask60.T):evFn E0 (orcOf (fes60 c54 c69 c77 c78)) an60 (loOf (les60)) 42 cd60 Try.f60.results.toList rm60 (ask60.mk' s) (decW rsk60 dec60)=B60 c54 c69 c77 c78 s.1.1 s.1.2.1:=by kernel_rfl
end
noncomputable def an79:Ann:=⟨[(3,[(1, .any),(5, .any),(20, .any),(21, .any),(22, .any)]),(7,[(1, .any),(5, .any),(6, .any),(7, .any),(8, .any),(20, .any),(21, .any),(22, .any),(27, .any),(28, .any),(29, .any)])],[],[]⟩
noncomputable def cd79:Code:=(Try.f79.body).getD .skip
noncomputable def p79:List Pos:=posns an79 [] cd79
noncomputable def rm79:List RM:=[.d (.li (.it .u64))]
noncomputable def rk79 (s0:SbT ask79.bl):KX R79:=retK E0 Try.f79.results.toList rm79 (mkB ask79.bl s0) (decW rsk79 dec79)
noncomputable def k79l0:Sk:=⟨[(1, .d (.li (.it .u64))),(5, .f (.a (.ref 5))),(20, .d (.li (.it .u64))),(21, .d (.it .i64)),(22, .d (.it .i64))],[(5, .own (.it .u64) true)]⟩
noncomputable def k79l1:Sk:=⟨[(1, .d (.li (.it .u64))),(5, .f (.a (.ref 5))),(6, .d (.it .i64)),(7, .d (.it .u64)),(8, .d (.it .u64)),(20, .d (.li (.it .u64))),(21, .d (.it .i64)),(22, .d (.it .i64)),(27, .d (.li (.it .u64))),(28, .d (.it .i64)),(29, .d (.it .i64))],[(5, .own (.it .u64) true)]⟩
noncomputable def les79 (gl0:(List Int)→(List Int)→Int→Int→(List Int)→Option R79) (gl1:(List Int)→Int→Int→Int→(List Int)→Int→Int→(List Int)→Int→Int→(List Int)→Option R79):List (LoE R79):=[⟨3,k79l0,fun s=>gl0 s.1.1 s.1.2.1 s.1.2.2.1 s.1.2.2.2.1 s.2.1⟩,⟨7,k79l1,fun s=>gl1 s.1.1 s.1.2.1 s.1.2.2.1 s.1.2.2.2.1 s.1.2.2.2.2.1 s.1.2.2.2.2.2.1 s.1.2.2.2.2.2.2.1 s.1.2.2.2.2.2.2.2.1 s.1.2.2.2.2.2.2.2.2.1 s.1.2.2.2.2.2.2.2.2.2.1 s.2.1⟩]
noncomputable def fes79 (c83:Int→Int→Int→Option R83) (c84:(List Int)→Option R84) (c91:Int→Int→Option R91):List FE:=[(fe83 c83),(fe84 c84),(fe91 c91)]
section
variable (gl0:(List Int)→(List Int)→Int→Int→(List Int)→Option R79) (gl1:(List Int)→Int→Int→Int→(List Int)→Int→Int→(List Int)→Int→Int→(List Int)→Option R79) (c83:Int→Int→Int→Option R83) (c84:(List Int)→Option R84) (c91:Int→Int→Option R91)
noncomputable def B79l0 (x1:(List Int)) (x20:(List Int)) (x21:Int) (x22:Int) (x5:(List Int)):Option R79:=if x22<x21 then(if 0≤x22 then(if x22<(x20.length:Int)then(gl1 x1 x22 (rd x20 x22) 0 x20 x21 x22 x1 (x1.length:Int) 0 x5)else(none))else(none))else((c84 x5).bind fun r1=>(some (r1.2.take (r1.1:Int).toNat)))
theorem e79l0 (s0:SbT ask79.bl) (s:k79l0.T):evPos E0 (orcOf (fes79 c83 c84 c91)) 80 an79 (loOf (les79 gl0 gl1)) (rk79 s0) (p79.getD 0 ⟨0,[], .skip⟩) (k79l0.mk' s)=B79l0 gl1 c84 s.1.1 s.1.2.1 s.1.2.2.1 s.1.2.2.2.1 s.2.1:=by kernel_rfl
noncomputable def B79l1 (x1:(List Int)) (x6:Int) (x7:Int) (x8:Int) (x20:(List Int)) (x21:Int) (x22:Int) (x27:(List Int)) (x28:Int) (x29:Int) (x5:(List Int)):Option R79:=if x29<x28 then(if 0≤x29 then(if x29<(x27.length:Int)then((c91 x7 (rd x27 x29)).bind fun r1=>(if 0≤wrap64 (x6+x29)then(if wrap64 (x6+x29)<(x5.length:Int)then((c83 r1.2 (rd x5 (wrap64 (x6+x29))) 0).bind fun r2=>((c83 r2.1 x8 0).bind fun r3=>(if 0≤wrap64 (x6+x29)then(if wrap64 (x6+x29)<(x5.length:Int)then(gl1 x1 x6 x7 (IntKind.u64.wrap ((IntKind.u64.wrap (r1.1+r2.2))+r3.2)) x20 x21 x22 x27 x28 (wrap64 (x29+1)) (x5.set (wrap64 (x6+x29):Int).toNat r3.1))else(none))else(none))))else(none))else(none)))else(none))else(none))else(if 0≤wrap64 (x6+(x1.length:Int))then(if wrap64 (x6+(x1.length:Int))<(x5.length:Int)then(gl0 x1 x20 x21 (wrap64 (x22+1)) (x5.set (wrap64 (x6+(x1.length:Int)):Int).toNat x8))else(none))else(none))
theorem e79l1 (s0:SbT ask79.bl) (s:k79l1.T):evPos E0 (orcOf (fes79 c83 c84 c91)) 80 an79 (loOf (les79 gl0 gl1)) (rk79 s0) (p79.getD 1 ⟨0,[], .skip⟩) (k79l1.mk' s)=B79l1 gl0 gl1 c83 c91 s.1.1 s.1.2.1 s.1.2.2.1 s.1.2.2.2.1 s.1.2.2.2.2.1 s.1.2.2.2.2.2.1 s.1.2.2.2.2.2.2.1 s.1.2.2.2.2.2.2.2.1 s.1.2.2.2.2.2.2.2.2.1 s.1.2.2.2.2.2.2.2.2.2.1 s.2.1:=by kernel_rfl
noncomputable def B79 (x0:(List Int)) (x1:(List Int)):Option R79:=if 0≤wrap64 ((x0.length:Int)+(x1.length:Int))then(if wrap64 ((x0.length:Int)+(x1.length:Int))≤wrap64 ((x0.length:Int)+(x1.length:Int))then(if(wrap64 ((x0.length:Int)+(x1.length:Int)):Int).toNat≤35184372088832 then(gl0 x1 x0 (x0.length:Int) 0 (List.replicate (wrap64 ((x0.length:Int)+(x1.length:Int)):Int).toNat (0:Int)))else(none))else(none))else(none)
theorem e79 (s:ask79.T):evFn E0 (orcOf (fes79 c83 c84 c91)) an79 (loOf (les79 gl0 gl1)) 80 cd79 Try.f79.results.toList rm79 (ask79.mk' s) (decW rsk79 dec79)=B79 gl0 s.1.1 s.1.2.1:=by kernel_rfl
end
noncomputable def an61:Ann:=⟨[],[],[]⟩
noncomputable def cd61:Code:=(Try.f61.body).getD .skip
noncomputable def rm61:List RM:=[.d .st]
noncomputable def les61:List (LoE R61):=[]
noncomputable def fes61 (c73:ByteArray→Option R73) (c75:(List Int)→Option R75) (c79:(List Int)→(List Int)→Option R79):List FE:=[(fe73 c73),(fe75 c75),(fe79 c79)]
section
variable (c73:ByteArray→Option R73) (c75:(List Int)→Option R75) (c79:(List Int)→(List Int)→Option R79)
noncomputable def B61 (x0:ByteArray) (x1:ByteArray):Option R61:=(c73 x0).bind fun r1=>((c73 x1).bind fun r2=>((c79 r1 r2).bind fun r3=>((c75 r3).bind fun r4=>(some r4))))
theorem e61 (s:ask61.T):evFn E0 (orcOf (fes61 c73 c75 c79)) an61 (loOf (les61)) 11 cd61 Try.f61.results.toList rm61 (ask61.mk' s) (decW rsk61 dec61)=B61 c73 c75 c79 s.1.1 s.1.2.1:=by kernel_rfl
end
noncomputable def an34:Ann:=⟨[],[],[]⟩
noncomputable def cd34:Code:=(Try.f34.body).getD .skip
noncomputable def rm34:List RM:=[.d (.ag (.pr (.ag (.pr .bo .st)) .st))]
noncomputable def les34:List (LoE R34):=[]
noncomputable def fes34 (c23:TI→TI→Option R23) (c24:TI→Option R24) (c54:Bool→ByteArray→Option R54) (c60:TI→TI→Option R60) (c61:ByteArray→ByteArray→Option R61):List FE:=[(fe23 c23),(fe24 c24),(fe54 c54),(fe60 c60),(fe61 c61)]
section
variable (c23:TI→TI→Option R23) (c24:TI→Option R24) (c54:Bool→ByteArray→Option R54) (c60:TI→TI→Option R60) (c61:ByteArray→ByteArray→Option R61)
noncomputable def B34 (x0:TQ) (x1:TQ):Option R34:=cnd ((x0.2.toList==x1.2.toList)) (cnd ((x0.2.toList==(⟨#[1]⟩:ByteArray).toList)) ((c60 x0.1 x1.1).bind fun r1=>((c24 (r1.1,r1.2)).bind fun r2=>(some (r2.1,r2.2)))) ((c60 x0.1 x1.1).bind fun r3=>((c23 (r3.1,r3.2) (false,x0.2)).bind fun r4=>(some (r4.1,r4.2))))) ((c61 x0.1.2 x1.2).bind fun r5=>((c54 x0.1.1 r5).bind fun r6=>((c61 x1.1.2 x0.2).bind fun r7=>((c54 x1.1.1 r7).bind fun r8=>((c60 (r6.1,r6.2) (r8.1,r8.2)).bind fun r9=>((c61 x0.2 x1.2).bind fun r10=>((c23 (r9.1,r9.2) (false,r10)).bind fun r11=>(some (r11.1,r11.2)))))))))
theorem e34 (s:ask34.T):evFn E0 (orcOf (fes34 c23 c24 c54 c60 c61)) an34 (loOf (les34)) 58 cd34 Try.f34.results.toList rm34 (ask34.mk' s) (decW rsk34 dec34)=B34 c23 c24 c54 c60 c61 s.1.1 s.1.2.1:=by kernel_rfl
end
noncomputable def an33:Ann:=⟨[],[],[]⟩
noncomputable def cd33:Code:=(Try.f33.body).getD .skip
noncomputable def rm33:List RM:=[.d (.ag (.pr (.ag (.pr .bo .st)) .st)), .d (.it .i64)]
noncomputable def les33:List (LoE R33):=[]
noncomputable def fes33 (c34:TQ→TQ→Option R34):List FE:=[(fe34 c34)]
section
variable (c34:TQ→TQ→Option R34)
noncomputable def B33 (x0:(List TQ)):Option R33:=if(0:Int)≤0 then(if 0<(x0.length:Int)then(if(0:Int)≤1 then(if 1<(x0.length:Int)then((c34 (rdOf ((false,(⟨#[]⟩:ByteArray)),(⟨#[]⟩:ByteArray)) x0 0) (rdOf ((false,(⟨#[]⟩:ByteArray)),(⟨#[]⟩:ByteArray)) x0 1)).bind fun r1=>(some (r1.1,r1.2,0)))else(none))else(none))else(none))else(none)
theorem e33 (s:ask33.T):evFn E0 (orcOf (fes33 c34)) an33 (loOf (les33)) 11 cd33 Try.f33.results.toList rm33 (ask33.mk' s) (decW rsk33 dec33)=B33 c34 s.1.1:=by kernel_rfl
end
noncomputable def an49:Ann:=⟨[],[],[]⟩
noncomputable def cd49:Code:=(Try.f49.body).getD .skip
noncomputable def rm49:List RM:=[.d (.it .i64)]
noncomputable def les49:List (LoE R49):=[]
noncomputable def fes49:List FE:=[]
noncomputable def B49 (x0:ByteArray):Option R49:=if(x0.size:Int)>0 then(if(0:Int)≤0 then(if 0<(x0.size:Int)then(if bt x0 0=0 then(some 1)else(if(x0.size:Int)>1024 then(some 4)else(some 0)))else(none))else(none))else(if(x0.size:Int)>1024 then(some 4)else(some 0))
theorem e49 (s:ask49.T):evFn E0 (orcOf (fes49)) an49 (loOf (les49)) 14 cd49 Try.f49.results.toList rm49 (ask49.mk' s) (decW rsk49 dec49)=B49 s.1.1:=by kernel_rfl
noncomputable def an50:Ann:=⟨[],[],[]⟩
noncomputable def cd50:Code:=(Try.f50.body).getD .skip
noncomputable def rm50:List RM:=[.d (.ag (.pr .bo .st))]
noncomputable def les50:List (LoE R50):=[]
noncomputable def fes50:List FE:=[]
noncomputable def B50:Option R50:=some (false,(⟨#[]⟩:ByteArray))
theorem e50 (s:ask50.T):evFn E0 (orcOf (fes50)) an50 (loOf (les50)) 2 cd50 Try.f50.results.toList rm50 (ask50.mk' s) (decW rsk50 dec50)=B50:=by kernel_rfl
noncomputable def an21:Ann:=⟨[],[],[]⟩
noncomputable def cd21:Code:=(Try.f21.body).getD .skip
noncomputable def rm21:List RM:=[.d (.it .i64)]
noncomputable def les21:List (LoE R21):=[]
noncomputable def fes21 (c49:ByteArray→Option R49) (c50:Option R50):List FE:=[(fe49 c49),(fe50 c50)]
section
variable (c49:ByteArray→Option R49) (c50:Option R50)
noncomputable def B21 (x0:TI):Option R21:=(c49 x0.2).bind fun r1=>(if r1=1 then(some r1)else((c50).bind fun r2=>(cnd ((!((x0.1==r2.1)&&(x0.2.toList==r2.2.toList)))) (cnd ((x0.2.toList==(⟨#[]⟩:ByteArray).toList)) (some 1) (some r1)) (some r1))))
theorem e21 (s:ask21.T):evFn E0 (orcOf (fes21 c49 c50)) an21 (loOf (les21)) 21 cd21 Try.f21.results.toList rm21 (ask21.mk' s) (decW rsk21 dec21)=B21 c49 c50 s.1.1:=by kernel_rfl
end
noncomputable def an35:Ann:=⟨[],[],[]⟩
noncomputable def cd35:Code:=(Try.f35.body).getD .skip
noncomputable def rm35:List RM:=[.d (.it .i64)]
noncomputable def les35:List (LoE R35):=[]
noncomputable def fes35 (c21:TI→Option R21) (c49:ByteArray→Option R49) (c52:ByteArray→ByteArray→Option R52):List FE:=[(fe21 c21),(fe49 c49),(fe52 c52)]
section
variable (c21:TI→Option R21) (c49:ByteArray→Option R49) (c52:ByteArray→ByteArray→Option R52)
noncomputable def B35 (x0:TQ):Option R35:=(c21 x0.1).bind fun r1=>((c49 x0.2).bind fun r2=>(if r1=1 then(some 1)else(if r2=1 then(some 1)else(cnd ((x0.2.toList==(⟨#[]⟩:ByteArray).toList)) (some 1) (if r1≠0 then(some r1)else(if r2≠0 then(some r2)else(cnd ((!(x0.2.toList==(⟨#[1]⟩:ByteArray).toList))) ((c52 x0.1.2 x0.2).bind fun r3=>(cnd ((!(r3.toList==(⟨#[1]⟩:ByteArray).toList))) (some 1) (some 0))) (some 0))))))))
theorem e35 (s:ask35.T):evFn E0 (orcOf (fes35 c21 c49 c52)) an35 (loOf (les35)) 44 cd35 Try.f35.results.toList rm35 (ask35.mk' s) (decW rsk35 dec35)=B35 c21 c49 c52 s.1.1:=by kernel_rfl
end
noncomputable def an32Add:Ann:=⟨[(2,[(0, .any),(1, .any),(4, .any),(11, .any),(12, .any),(13, .any)])],[],[]⟩
noncomputable def cd32Add:Code:=(Try.f32.body).getD .skip
noncomputable def p32Add:List Pos:=posns an32Add [] cd32Add
noncomputable def rm32Add:List RM:=[.d (.ag (.pr (.ag (.pr .bo .st)) .st)), .d (.it .i64)]
noncomputable def rk32Add (s0:SbT ask32Add.bl):KX R32Add:=retK E0 Try.f32.results.toList rm32Add (mkB ask32Add.bl s0) (decW rsk32Add dec32Add)
noncomputable def k32Addl0:Sk:=⟨[(0, .f (.cl 33 [])),(1, .d (.li (.ag (.pr (.ag (.pr .bo .st)) .st)))),(4, .f (.a (.ptr 4 0 []))),(11, .d (.li (.ag (.pr (.ag (.pr .bo .st)) .st)))),(12, .d (.it .i64)),(13, .d (.it .i64))],[(4, .cell (.ag (.pr (.ag (.pr .bo .st)) .st)) true)]⟩
noncomputable def les32Add (gl0:(List TQ)→(List TQ)→Int→Int→TQ→Option R32Add):List (LoE R32Add):=[⟨2,k32Addl0,fun s=>gl0 s.1.1 s.1.2.1 s.1.2.2.1 s.1.2.2.2.1 s.2.1⟩]
noncomputable def fes32Add (c22:TQ→Option R22) (c33:(List TQ)→Option R33) (c35:TQ→Option R35):List FE:=[(fe22 c22),(fe33 c33),(fe35 c35)]
section
variable (gl0:(List TQ)→(List TQ)→Int→Int→TQ→Option R32Add) (c22:TQ→Option R22) (c33:(List TQ)→Option R33) (c35:TQ→Option R35)
noncomputable def B32Addl0 (x1:(List TQ)) (x11:(List TQ)) (x12:Int) (x13:Int) (x4:TQ):Option R32Add:=if x13<x12 then(if 0≤x13 then(if x13<(x11.length:Int)then((c35 (rdOf ((false,(⟨#[]⟩:ByteArray)),(⟨#[]⟩:ByteArray)) x11 x13)).bind fun r1=>(if r1≠0 then(some ((false,(⟨#[]⟩:ByteArray)),(⟨#[]⟩:ByteArray),r1))else(gl0 x1 x11 x12 (wrap64 (x13+1)) x4)))else(none))else(none))else((c33 x1).bind fun r2=>(if r2.2.2≠0 then(some ((false,(⟨#[]⟩:ByteArray)),(⟨#[]⟩:ByteArray),r2.2.2))else((c22 (r2.1,r2.2.1)).bind fun r3=>(some (r3.1,r3.2.1,r3.2.2)))))
theorem e32Addl0 (s0:SbT ask32Add.bl) (s:k32Addl0.T):evPos E0 (orcOf (fes32Add c22 c33 c35)) 38 an32Add (loOf (les32Add gl0)) (rk32Add s0) (p32Add.getD 0 ⟨0,[], .skip⟩) (k32Addl0.mk' s)=B32Addl0 gl0 c22 c33 c35 s.1.1 s.1.2.1 s.1.2.2.1 s.1.2.2.2.1 s.2.1:=by kernel_rfl
noncomputable def B32Add (x1:(List TQ)):Option R32Add:=gl0 x1 x1 (x1.length:Int) 0 ((false,(⟨#[]⟩:ByteArray)),(⟨#[]⟩:ByteArray))
theorem e32Add (s:ask32Add.T):evFn E0 (orcOf (fes32Add c22 c33 c35)) an32Add (loOf (les32Add gl0)) 38 cd32Add Try.f32.results.toList rm32Add (ask32Add.mk' s) (decW rsk32Add dec32Add)=B32Add gl0 s.1.1:=by kernel_rfl
end
noncomputable def an13:Ann:=⟨[],[],[]⟩
noncomputable def cd13:Code:=(Try.f13.body).getD .skip
noncomputable def rm13:List RM:=[.d (.ag (.pr (.ag (.pr .bo .st)) .st)), .d (.it .i64)]
noncomputable def les13:List (LoE R13):=[]
noncomputable def fes13 (c32Add:(List TQ)→Option R32Add):List FE:=[(fe32Add c32Add)]
section
variable (c32Add:(List TQ)→Option R32Add)
noncomputable def B13 (x0:TQ) (x1:TQ):Option R13:=(c32Add ([x0,x1]:List TQ)).bind fun r1=>(some (r1.1,r1.2.1,r1.2.2))
theorem e13 (s:ask13.T):evFn E0 (orcOf (fes13 c32Add)) an13 (loOf (les13)) 12 cd13 Try.f13.results.toList rm13 (ask13.mk' s) (decW rsk13 dec13)=B13 c32Add s.1.1 s.1.2.1:=by kernel_rfl
end
noncomputable def an36:Ann:=⟨[],[],[]⟩
noncomputable def cd36:Code:=(Try.f36.body).getD .skip
noncomputable def rm36:List RM:=[.d (.ag (.pr .bo .st)), .d (.it .i64)]
noncomputable def les36:List (LoE R36):=[]
noncomputable def fes36:List FE:=[]
noncomputable def B36 (x0:TI):Option R36:=if(x0.2.size:Int)>1024 then(some (false,(⟨#[]⟩:ByteArray),4))else(some (x0.1,x0.2,0))
theorem e36 (s:ask36.T):evFn E0 (orcOf (fes36)) an36 (loOf (les36)) 10 cd36 Try.f36.results.toList rm36 (ask36.mk' s) (decW rsk36 dec36)=B36 s.1.1:=by kernel_rfl
noncomputable def an62:Ann:=⟨[],[],[]⟩
noncomputable def cd62:Code:=(Try.f62.body).getD .skip
noncomputable def rm62:List RM:=[.d (.ag (.pr .bo .st)), .d (.ag (.pr .bo .st))]
noncomputable def les62:List (LoE R62):=[]
noncomputable def fes62 (c53:ByteArray→ByteArray→Option R53) (c54:Bool→ByteArray→Option R54) (c69:ByteArray→ByteArray→Option R69) (c72:Int→Option R72) (c78:ByteArray→ByteArray→Option R78):List FE:=[(fe53 c53),(fe54 c54),(fe69 c69),(fe72 c72),(fe78 c78)]
section
variable (c53:ByteArray→ByteArray→Option R53) (c54:Bool→ByteArray→Option R54) (c69:ByteArray→ByteArray→Option R69) (c72:Int→Option R72) (c78:ByteArray→ByteArray→Option R78)
noncomputable def B62 (x0:TI) (x1:TI):Option R62:=(c53 x0.2 x1.2).bind fun r1=>(cnd (x0.1) (cnd ((!(r1.2.toList==(⟨#[]⟩:ByteArray).toList))) ((c72 1).bind fun r2=>((c69 r1.1 r2).bind fun r3=>((c78 x1.2 r1.2).bind fun r4=>((c54 (!(x0.1==x1.1)) r3).bind fun r5=>(some (r5.1,r5.2,false,r4)))))) ((c54 (!(x0.1==x1.1)) r1.1).bind fun r6=>(some (r6.1,r6.2,false,r1.2)))) ((c54 (!(x0.1==x1.1)) r1.1).bind fun r7=>(some (r7.1,r7.2,false,r1.2))))
theorem e62 (s:ask62.T):evFn E0 (orcOf (fes62 c53 c54 c69 c72 c78)) an62 (loOf (les62)) 38 cd62 Try.f62.results.toList rm62 (ask62.mk' s) (decW rsk62 dec62)=B62 c53 c54 c69 c72 c78 s.1.1 s.1.2.1:=by kernel_rfl
end
noncomputable def an37:Ann:=⟨[],[],[]⟩
noncomputable def cd37:Code:=(Try.f37.body).getD .skip
noncomputable def rm37:List RM:=[.d (.ag (.pr .bo .st))]
noncomputable def les37:List (LoE R37):=[]
noncomputable def fes37 (c62:TI→TI→Option R62):List FE:=[(fe62 c62)]
section
variable (c62:TI→TI→Option R62)
noncomputable def B37 (x0:TQ):Option R37:=(c62 x0.1 (false,x0.2)).bind fun r1=>(some (r1.1,r1.2.1))
theorem e37 (s:ask37.T):evFn E0 (orcOf (fes37 c62)) an37 (loOf (les37)) 15 cd37 Try.f37.results.toList rm37 (ask37.mk' s) (decW rsk37 dec37)=B37 c62 s.1.1:=by kernel_rfl
end
noncomputable def an14:Ann:=⟨[],[],[]⟩
noncomputable def cd14:Code:=(Try.f14.body).getD .skip
noncomputable def rm14:List RM:=[.d (.ag (.pr .bo .st)), .d (.it .i64)]
noncomputable def les14:List (LoE R14):=[]
noncomputable def fes14 (c35:TQ→Option R35) (c36:TI→Option R36) (c37:TQ→Option R37):List FE:=[(fe35 c35),(fe36 c36),(fe37 c37)]
section
variable (c35:TQ→Option R35) (c36:TI→Option R36) (c37:TQ→Option R37)
noncomputable def B14 (x0:TQ):Option R14:=(c35 x0).bind fun r1=>(if r1≠0 then(some (false,(⟨#[]⟩:ByteArray),r1))else((c37 x0).bind fun r2=>((c36 (r2.1,r2.2)).bind fun r3=>(some (r3.1,r3.2.1,r3.2.2)))))
theorem e14 (s:ask14.T):evFn E0 (orcOf (fes14 c35 c36 c37)) an14 (loOf (les14)) 16 cd14 Try.f14.results.toList rm14 (ask14.mk' s) (decW rsk14 dec14)=B14 c35 c36 c37 s.1.1:=by kernel_rfl
end
noncomputable def an15:Ann:=⟨[],[],[]⟩
noncomputable def cd15:Code:=(Try.f15.body).getD .skip
noncomputable def rm15:List RM:=[.d (.ag (.pr .bo .st)), .d (.it .i64)]
noncomputable def les15:List (LoE R15):=[]
noncomputable def fes15 (c20:Int→Int→Option R20) (c34:TQ→TQ→Option R34) (c35:TQ→Option R35) (c36:TI→Option R36) (c37:TQ→Option R37):List FE:=[(fe20 c20),(fe34 c34),(fe35 c35),(fe36 c36),(fe37 c37)]
section
variable (c20:Int→Int→Option R20) (c34:TQ→TQ→Option R34) (c35:TQ→Option R35) (c36:TI→Option R36) (c37:TQ→Option R37)
noncomputable def B15 (x0:TQ):Option R15:=(c35 x0).bind fun r1=>(if r1≠0 then(some (false,(⟨#[]⟩:ByteArray),r1))else((c20 1 2).bind fun r2=>((c34 x0 (r2.1,r2.2)).bind fun r3=>((c37 (r3.1,r3.2)).bind fun r4=>((c36 (r4.1,r4.2)).bind fun r5=>(some (r5.1,r5.2.1,r5.2.2)))))))
theorem e15 (s:ask15.T):evFn E0 (orcOf (fes15 c20 c34 c35 c36 c37)) an15 (loOf (les15)) 18 cd15 Try.f15.results.toList rm15 (ask15.mk' s) (decW rsk15 dec15)=B15 c20 c34 c35 c36 c37 s.1.1:=by kernel_rfl
end
noncomputable def an39:Ann:=⟨[],[],[]⟩
noncomputable def cd39:Code:=(Try.f39.body).getD .skip
noncomputable def rm39:List RM:=[.d .bo]
noncomputable def les39:List (LoE R39):=[]
noncomputable def fes39:List FE:=[]
noncomputable def B39 (x0:TQ):Option R39:=some (x0.1.2.toList==(⟨#[]⟩:ByteArray).toList)
theorem e39 (s:ask39.T):evFn E0 (orcOf (fes39)) an39 (loOf (les39)) 7 cd39 Try.f39.results.toList rm39 (ask39.mk' s) (decW rsk39 dec39)=B39 s.1.1:=by kernel_rfl
noncomputable def an40:Ann:=⟨[],[],[]⟩
noncomputable def cd40:Code:=(Try.f40.body).getD .skip
noncomputable def rm40:List RM:=[.d (.ag (.pr (.ag (.pr .bo .st)) .st))]
noncomputable def les40:List (LoE R40):=[]
noncomputable def fes40:List FE:=[]
noncomputable def B40 (x0:TQ):Option R40:=some ((x0.1.1,x0.2),x0.1.2)
theorem e40 (s:ask40.T):evFn E0 (orcOf (fes40)) an40 (loOf (les40)) 13 cd40 Try.f40.results.toList rm40 (ask40.mk' s) (decW rsk40 dec40)=B40 s.1.1:=by kernel_rfl
noncomputable def cd80:Code:=(Try.f80.body).getD .skip
noncomputable def an63:Ann:=⟨[],[],[]⟩
noncomputable def cd63:Code:=(Try.f63.body).getD .skip
noncomputable def rm63:List RM:=[.d (.it .i64)]
noncomputable def les63:List (LoE R63):=[]
noncomputable def fes63 (c80:Int→Option R80):List FE:=[(fe80 c80)]
section
variable (c80:Int→Option R80)
noncomputable def B63 (x0:ByteArray):Option R63:=cnd ((x0.toList==(⟨#[]⟩:ByteArray).toList)) (some 0) (if(0:Int)≤0 then(if 0<(x0.size:Int)then((c80 (bt x0 0)).bind fun r1=>(some (wrap64 ((wrap64 (8*(wrap64 ((x0.size:Int)-1))))+r1))))else(none))else(none))
theorem e63 (s:ask63.T):evFn E0 (orcOf (fes63 c80)) an63 (loOf (les63)) 13 cd63 Try.f63.results.toList rm63 (ask63.mk' s) (decW rsk63 dec63)=B63 c80 s.1.1:=by kernel_rfl
end
noncomputable def an41:Ann:=⟨[],[],[]⟩
noncomputable def cd41:Code:=(Try.f41.body).getD .skip
noncomputable def rm41:List RM:=[.d .bo]
noncomputable def les41:List (LoE R41):=[]
noncomputable def fes41 (c63:ByteArray→Option R63):List FE:=[(fe63 c63)]
section
variable (c63:ByteArray→Option R63)
noncomputable def B41 (x0:ByteArray) (x1:Int):Option R41:=cnd ((!(x0.toList==(⟨#[]⟩:ByteArray).toList))) ((c63 x0).bind fun r1=>(some (decide (wrap64 ((wrap64 (r1-1))*x1)≥8192)))) (some false)
theorem e41 (s:ask41.T):evFn E0 (orcOf (fes41 c63)) an41 (loOf (les41)) 15 cd41 Try.f41.results.toList rm41 (ask41.mk' s) (decW rsk41 dec41)=B41 c63 s.1.1 s.1.2.1:=by kernel_rfl
end
noncomputable def an65:Ann:=⟨[(2,[(1, .any),(5, .val (.li (.it .u64))),(6, .val (.li (.it .u64)))])],[],[]⟩
noncomputable def cd65:Code:=(Try.f65.body).getD .skip
noncomputable def p65:List Pos:=posns an65 [] cd65
noncomputable def rm65:List RM:=[.d .st]
noncomputable def rk65 (s0:SbT ask65.bl):KX R65:=retK E0 Try.f65.results.toList rm65 (mkB ask65.bl s0) (decW rsk65 dec65)
noncomputable def k65l0:Sk:=⟨[(1, .d (.it .i64)),(5, .d (.li (.it .u64))),(6, .d (.li (.it .u64)))],[]⟩
noncomputable def les65 (gl0:Int→(List Int)→(List Int)→Option R65):List (LoE R65):=[⟨2,k65l0,fun s=>gl0 s.1.1 s.1.2.1 s.1.2.2.1⟩]
noncomputable def fes65 (c73:ByteArray→Option R73) (c75:(List Int)→Option R75) (c79:(List Int)→(List Int)→Option R79):List FE:=[(fe73 c73),(fe75 c75),(fe79 c79)]
section
variable (gl0:Int→(List Int)→(List Int)→Option R65) (c73:ByteArray→Option R73) (c75:(List Int)→Option R75) (c79:(List Int)→(List Int)→Option R79)
noncomputable def B65l0 (x1:Int) (x5:(List Int)) (x6:(List Int)):Option R65:=if x1>0 then(if Go.bits .and .i64 x1 1=1 then((c79 x5 x6).bind fun r1=>((c79 x6 x6).bind fun r2=>(if(0:Int)≤1 then(gl0 (x1/2) r1 r2)else(none))))else((c79 x6 x6).bind fun r3=>(if(0:Int)≤1 then(gl0 (x1/2) x5 r3)else(none))))else((c75 x5).bind fun r4=>(some r4))
theorem e65l0 (s0:SbT ask65.bl) (s:k65l0.T):evPos E0 (orcOf (fes65 c73 c75 c79)) 25 an65 (loOf (les65 gl0)) (rk65 s0) (p65.getD 0 ⟨0,[], .skip⟩) (k65l0.mk' s)=B65l0 gl0 c75 c79 s.1.1 s.1.2.1 s.1.2.2.1:=by kernel_rfl
noncomputable def B65 (x0:ByteArray) (x1:Int):Option R65:=(c73 x0).bind fun r1=>(gl0 x1 ([1]:List Int) r1)
theorem e65 (s:ask65.T):evFn E0 (orcOf (fes65 c73 c75 c79)) an65 (loOf (les65 gl0)) 25 cd65 Try.f65.results.toList rm65 (ask65.mk' s) (decW rsk65 dec65)=B65 gl0 c73 s.1.1 s.1.2.1:=by kernel_rfl
end
noncomputable def an64:Ann:=⟨[],[],[]⟩
noncomputable def cd64:Code:=(Try.f64.body).getD .skip
noncomputable def rm64:List RM:=[.d (.ag (.pr .bo .st))]
noncomputable def les64:List (LoE R64):=[]
noncomputable def fes64 (c54:Bool→ByteArray→Option R54) (c65:ByteArray→Int→Option R65):List FE:=[(fe54 c54),(fe65 c65)]
section
variable (c54:Bool→ByteArray→Option R54) (c65:ByteArray→Int→Option R65)
noncomputable def B64 (x0:TI) (x1:Int):Option R64:=cnd (x0.1) (if(2:Int)=0 then(none)else((c65 x0.2 x1).bind fun r1=>((c54 (decide (Int.tmod x1 2=1)) r1).bind fun r2=>(some (r2.1,r2.2))))) ((c65 x0.2 x1).bind fun r3=>((c54 false r3).bind fun r4=>(some (r4.1,r4.2))))
theorem e64 (s:ask64.T):evFn E0 (orcOf (fes64 c54 c65)) an64 (loOf (les64)) 17 cd64 Try.f64.results.toList rm64 (ask64.mk' s) (decW rsk64 dec64)=B64 c54 c65 s.1.1 s.1.2.1:=by kernel_rfl
end
noncomputable def an42:Ann:=⟨[],[],[]⟩
noncomputable def cd42:Code:=(Try.f42.body).getD .skip
noncomputable def rm42:List RM:=[.d (.ag (.pr (.ag (.pr .bo .st)) .st))]
noncomputable def les42:List (LoE R42):=[]
noncomputable def fes42 (c64:TI→Int→Option R64) (c65:ByteArray→Int→Option R65):List FE:=[(fe64 c64),(fe65 c65)]
section
variable (c64:TI→Int→Option R64) (c65:ByteArray→Int→Option R65)
noncomputable def B42 (x0:TQ) (x1:Int):Option R42:=(c64 x0.1 x1).bind fun r1=>((c65 x0.2 x1).bind fun r2=>(some ((r1.1,r1.2),r2)))
theorem e42 (s:ask42.T):evFn E0 (orcOf (fes42 c64 c65)) an42 (loOf (les42)) 14 cd42 Try.f42.results.toList rm42 (ask42.mk' s) (decW rsk42 dec42)=B42 c64 c65 s.1.1 s.1.2.1:=by kernel_rfl
end
noncomputable def an38:Ann:=⟨[],[],[]⟩
noncomputable def cd38:Code:=(Try.f38.body).getD .skip
noncomputable def rm38:List RM:=[.d (.ag (.pr (.ag (.pr .bo .st)) .st)), .d (.it .i64)]
noncomputable def les38:List (LoE R38):=[]
noncomputable def fes38 (c39:TQ→Option R39) (c40:TQ→Option R40) (c41:ByteArray→Int→Option R41) (c42:TQ→Int→Option R42):List FE:=[(fe39 c39),(fe40 c40),(fe41 c41),(fe42 c42)]
section
variable (c39:TQ→Option R39) (c40:TQ→Option R40) (c41:ByteArray→Int→Option R41) (c42:TQ→Int→Option R42)
noncomputable def B38 (x0:(List TQ)) (y500:Int):Option R38:=if(0:Int)≤0 then(if 0<(x0.length:Int)then(if y500<(-4096)then(some ((rdOf ((false,(⟨#[]⟩:ByteArray)),(⟨#[]⟩:ByteArray)) x0 0).1,(rdOf ((false,(⟨#[]⟩:ByteArray)),(⟨#[]⟩:ByteArray)) x0 0).2,3,y500))else(if y500>4096 then(some ((rdOf ((false,(⟨#[]⟩:ByteArray)),(⟨#[]⟩:ByteArray)) x0 0).1,(rdOf ((false,(⟨#[]⟩:ByteArray)),(⟨#[]⟩:ByteArray)) x0 0).2,3,y500))else(if y500<0 then((c39 (rdOf ((false,(⟨#[]⟩:ByteArray)),(⟨#[]⟩:ByteArray)) x0 0)).bind fun r1=>(cnd (r1) (some ((rdOf ((false,(⟨#[]⟩:ByteArray)),(⟨#[]⟩:ByteArray)) x0 0).1,(rdOf ((false,(⟨#[]⟩:ByteArray)),(⟨#[]⟩:ByteArray)) x0 0).2,6,y500)) ((c40 (rdOf ((false,(⟨#[]⟩:ByteArray)),(⟨#[]⟩:ByteArray)) x0 0)).bind fun r2=>((c41 r2.1.2 (wrap64 (0-y500))).bind fun r3=>(cnd (r3) (some (r2.1,r2.2,4,wrap64 (0-y500))) ((c41 r2.2 (wrap64 (0-y500))).bind fun r4=>(cnd (r4) (some (r2.1,r2.2,4,wrap64 (0-y500))) ((c42 (r2.1,r2.2) (wrap64 (0-y500))).bind fun r5=>(some (r5.1,r5.2,0,wrap64 (0-y500)))))))))))else((c41 (((rdOf ((false,(⟨#[]⟩:ByteArray)),(⟨#[]⟩:ByteArray)) x0 0).1).2) y500).bind fun r6=>(cnd (r6) (some ((rdOf ((false,(⟨#[]⟩:ByteArray)),(⟨#[]⟩:ByteArray)) x0 0).1,(rdOf ((false,(⟨#[]⟩:ByteArray)),(⟨#[]⟩:ByteArray)) x0 0).2,4,y500)) ((c41 ((rdOf ((false,(⟨#[]⟩:ByteArray)),(⟨#[]⟩:ByteArray)) x0 0).2) y500).bind fun r7=>(cnd (r7) (some ((rdOf ((false,(⟨#[]⟩:ByteArray)),(⟨#[]⟩:ByteArray)) x0 0).1,(rdOf ((false,(⟨#[]⟩:ByteArray)),(⟨#[]⟩:ByteArray)) x0 0).2,4,y500)) ((c42 (rdOf ((false,(⟨#[]⟩:ByteArray)),(⟨#[]⟩:ByteArray)) x0 0) y500).bind fun r8=>(some (r8.1,r8.2,0,y500))))))))))else(none))else(none)
theorem e38 (s:ask38.T):evFn E0 (orcOf (fes38 c39 c40 c41 c42)) an38 (loOf (les38)) 40 cd38 Try.f38.results.toList rm38 (ask38.mk' s) (decW rsk38 dec38)=B38 c39 c40 c41 c42 s.1.1 s.2.1:=by kernel_rfl
end
noncomputable def an32Pow:Ann:=⟨[(2,[(0, .any),(1, .any),(4, .any),(11, .any),(12, .any),(13, .any)])],[],[]⟩
noncomputable def cd32Pow:Code:=(Try.f32.body).getD .skip
noncomputable def p32Pow:List Pos:=posns an32Pow [] cd32Pow
noncomputable def rm32Pow:List RM:=[.d (.ag (.pr (.ag (.pr .bo .st)) .st)), .d (.it .i64)]
noncomputable def rk32Pow (s0:SbT ask32Pow.bl):KX R32Pow:=retK E0 Try.f32.results.toList rm32Pow (mkB ask32Pow.bl s0) (decW rsk32Pow dec32Pow)
noncomputable def k32Powl0:Sk:=⟨[(0, .f (.cl 38 [(.ptr 2100 0 [])])),(1, .d (.li (.ag (.pr (.ag (.pr .bo .st)) .st)))),(4, .f (.a (.ptr 4 0 []))),(11, .d (.li (.ag (.pr (.ag (.pr .bo .st)) .st)))),(12, .d (.it .i64)),(13, .d (.it .i64))],[(2100, .cell (.it .i64) false),(4, .cell (.ag (.pr (.ag (.pr .bo .st)) .st)) true)]⟩
noncomputable def les32Pow (gl0:(List TQ)→(List TQ)→Int→Int→Int→TQ→Option R32Pow):List (LoE R32Pow):=[⟨2,k32Powl0,fun s=>gl0 s.1.1 s.1.2.1 s.1.2.2.1 s.1.2.2.2.1 s.2.1 s.2.2.1⟩]
noncomputable def fes32Pow (c22:TQ→Option R22) (c35:TQ→Option R35) (c38:(List TQ)→Int→Option R38):List FE:=[(fe22 c22),(fe35 c35),(fe38 c38)]
section
variable (gl0:(List TQ)→(List TQ)→Int→Int→Int→TQ→Option R32Pow) (c22:TQ→Option R22) (c35:TQ→Option R35) (c38:(List TQ)→Int→Option R38)
noncomputable def B32Powl0 (x1:(List TQ)) (x11:(List TQ)) (x12:Int) (x13:Int) (y100:Int) (x4:TQ):Option R32Pow:=if x13<x12 then(if 0≤x13 then(if x13<(x11.length:Int)then((c35 (rdOf ((false,(⟨#[]⟩:ByteArray)),(⟨#[]⟩:ByteArray)) x11 x13)).bind fun r1=>(if r1≠0 then(some ((false,(⟨#[]⟩:ByteArray)),(⟨#[]⟩:ByteArray),r1,y100))else(gl0 x1 x11 x12 (wrap64 (x13+1)) y100 x4)))else(none))else(none))else((c38 x1 y100).bind fun r2=>(if r2.2.2.1≠0 then(some ((false,(⟨#[]⟩:ByteArray)),(⟨#[]⟩:ByteArray),r2.2.2.1,r2.2.2.2))else((c22 (r2.1,r2.2.1)).bind fun r3=>(some (r3.1,r3.2.1,r3.2.2,r2.2.2.2)))))
theorem e32Powl0 (s0:SbT ask32Pow.bl) (s:k32Powl0.T):evPos E0 (orcOf (fes32Pow c22 c35 c38)) 38 an32Pow (loOf (les32Pow gl0)) (rk32Pow s0) (p32Pow.getD 0 ⟨0,[], .skip⟩) (k32Powl0.mk' s)=B32Powl0 gl0 c22 c35 c38 s.1.1 s.1.2.1 s.1.2.2.1 s.1.2.2.2.1 s.2.1 s.2.2.1:=by kernel_rfl
noncomputable def B32Pow (x1:(List TQ)) (y100:Int):Option R32Pow:=gl0 x1 x1 (x1.length:Int) 0 y100 ((false,(⟨#[]⟩:ByteArray)),(⟨#[]⟩:ByteArray))
theorem e32Pow (s:ask32Pow.T):evFn E0 (orcOf (fes32Pow c22 c35 c38)) an32Pow (loOf (les32Pow gl0)) 38 cd32Pow Try.f32.results.toList rm32Pow (ask32Pow.mk' s) (decW rsk32Pow dec32Pow)=B32Pow gl0 s.1.1 s.2.1:=by kernel_rfl
end
noncomputable def an16:Ann:=⟨[],[],[]⟩
noncomputable def cd16:Code:=(Try.f16.body).getD .skip
noncomputable def rm16:List RM:=[.d (.ag (.pr (.ag (.pr .bo .st)) .st)), .d (.it .i64)]
noncomputable def les16:List (LoE R16):=[]
noncomputable def fes16 (c32Pow:(List TQ)→Int→Option R32Pow):List FE:=[(fe32Pow c32Pow)]
section
variable (c32Pow:(List TQ)→Int→Option R32Pow)
noncomputable def B16 (x0:TQ) (x1:Int):Option R16:=(c32Pow ([x0]:List TQ) x1).bind fun r1=>(some (r1.1,r1.2.1,r1.2.2.1))
theorem e16 (s:ask16.T):evFn E0 (orcOf (fes16 c32Pow)) an16 (loOf (les16)) 12 cd16 Try.f16.results.toList rm16 (ask16.mk' s) (decW rsk16 dec16)=B16 c32Pow s.1.1 s.1.2.1:=by kernel_rfl
end
noncomputable def an92:Ann:=⟨[],[],[]⟩
noncomputable def cd92:Code:=(Try.f92.body).getD .skip
noncomputable def rm92:List RM:=[.d .st]
noncomputable def les92:List (LoE R92):=[]
noncomputable def fes92:List FE:=[]
noncomputable def B92 (x0:Int):Option R92:=if(8:Int)=0 then(none)else(if 0≤wrap64 ((wrap64 (Int.tdiv x0 8))+1)then(if wrap64 ((wrap64 (Int.tdiv x0 8))+1)≤wrap64 ((wrap64 (Int.tdiv x0 8))+1)then(if(wrap64 ((wrap64 (Int.tdiv x0 8))+1):Int).toNat≤281474976710656 then(if(8:Int)=0 then(none)else(if 0≤Int.tmod x0 8 then(if(0:Int)≤0 then(if 0<((List.replicate (wrap64 ((wrap64 (Int.tdiv x0 8))+1):Int).toNat (0:Int)).length:Int)then(some (strOfNums ((List.replicate (wrap64 ((wrap64 (Int.tdiv x0 8))+1):Int).toNat (0:Int)).set (0:Int).toNat (shl .u8 1 (Int.tmod x0 8)))))else(none))else(none))else(none)))else(none))else(none))else(none))
theorem e92 (s:ask92.T):evFn E0 (orcOf (fes92)) an92 (loOf (les92)) 15 cd92 Try.f92.results.toList rm92 (ask92.mk' s) (decW rsk92 dec92)=B92 s.1.1:=by kernel_rfl
noncomputable def an81:Ann:=⟨[(3,[(0, .any),(1, .any),(5, .any),(6, .any)])],[],[]⟩
noncomputable def cd81:Code:=(Try.f81.body).getD .skip
noncomputable def p81:List Pos:=posns an81 [] cd81
noncomputable def rm81:List RM:=[.d .st]
noncomputable def rk81 (s0:SbT ask81.bl):KX R81:=retK E0 Try.f81.results.toList rm81 (mkB ask81.bl s0) (decW rsk81 dec81)
noncomputable def k81l0:Sk:=⟨[(0, .d .st),(1, .d (.it .i64)),(5, .d .st),(6, .d (.it .i64))],[]⟩
noncomputable def les81 (gl0:ByteArray→Int→ByteArray→Int→Option R81):List (LoE R81):=[⟨3,k81l0,fun s=>gl0 s.1.1 s.1.2.1 s.1.2.2.1 s.1.2.2.2.1⟩]
noncomputable def fes81 (c63:ByteArray→Option R63) (c65:ByteArray→Int→Option R65) (c69:ByteArray→ByteArray→Option R69) (c77:ByteArray→ByteArray→Option R77) (c92:Int→Option R92):List FE:=[(fe63 c63),(fe65 c65),(fe69 c69),(fe77 c77),(fe92 c92)]
section
variable (gl0:ByteArray→Int→ByteArray→Int→Option R81) (c63:ByteArray→Option R63) (c65:ByteArray→Int→Option R65) (c69:ByteArray→ByteArray→Option R69) (c77:ByteArray→ByteArray→Option R77) (c92:Int→Option R92)
noncomputable def B81l0 (x0:ByteArray) (x1:Int) (x5:ByteArray) (x6:Int):Option R81:=if x6≥0 then((c92 x6).bind fun r1=>((c69 x5 r1).bind fun r2=>((c65 r2 x1).bind fun r3=>((c77 r3 x0).bind fun r4=>(if r4≤0 then(gl0 x0 x1 r2 (wrap64 (x6-1)))else(gl0 x0 x1 x5 (wrap64 (x6-1))))))))else(some x5)
theorem e81l0 (s0:SbT ask81.bl) (s:k81l0.T):evPos E0 (orcOf (fes81 c63 c65 c69 c77 c92)) 31 an81 (loOf (les81 gl0)) (rk81 s0) (p81.getD 0 ⟨0,[], .skip⟩) (k81l0.mk' s)=B81l0 gl0 c65 c69 c77 c92 s.1.1 s.1.2.1 s.1.2.2.1 s.1.2.2.2.1:=by kernel_rfl
noncomputable def B81 (x0:ByteArray) (x1:Int):Option R81:=(c63 x0).bind fun r1=>(if x1=0 then(none)else(gl0 x0 x1 (⟨#[]⟩:ByteArray) (wrap64 (Int.tdiv (wrap64 ((wrap64 (r1+x1))-1)) x1))))
theorem e81 (s:ask81.T):evFn E0 (orcOf (fes81 c63 c65 c69 c77 c92)) an81 (loOf (les81 gl0)) 31 cd81 Try.f81.results.toList rm81 (ask81.mk' s) (decW rsk81 dec81)=B81 gl0 c63 s.1.1 s.1.2.1:=by kernel_rfl
end
noncomputable def an66:Ann:=⟨[],[],[]⟩
noncomputable def cd66:Code:=(Try.f66.body).getD .skip
noncomputable def rm66:List RM:=[.d (.ag (.pr .bo .st)), .d .bo]
noncomputable def les66:List (LoE R66):=[]
noncomputable def fes66 (c61:ByteArray→ByteArray→Option R61) (c81:ByteArray→Int→Option R81):List FE:=[(fe61 c61),(fe81 c81)]
section
variable (c61:ByteArray→ByteArray→Option R61) (c81:ByteArray→Int→Option R81)
noncomputable def B66 (x0:TI):Option R66:=cnd (x0.1) (some (false,(⟨#[]⟩:ByteArray),false)) ((c81 x0.2 2).bind fun r1=>((c61 r1 r1).bind fun r2=>(cnd ((!(r2.toList==x0.2.toList))) (some (false,(⟨#[]⟩:ByteArray),false)) (some (false,r1,true)))))
theorem e66 (s:ask66.T):evFn E0 (orcOf (fes66 c61 c81)) an66 (loOf (les66)) 20 cd66 Try.f66.results.toList rm66 (ask66.mk' s) (decW rsk66 dec66)=B66 c61 c81 s.1.1:=by kernel_rfl
end
noncomputable def an67:Ann:=⟨[],[],[]⟩
noncomputable def cd67:Code:=(Try.f67.body).getD .skip
noncomputable def rm67:List RM:=[.d (.ag (.pr (.ag (.pr .bo .st)) .st))]
noncomputable def les67:List (LoE R67):=[]
noncomputable def fes67 (c24:TI→Option R24) (c48:Int→Option R48):List FE:=[(fe24 c24),(fe48 c48)]
section
variable (c24:TI→Option R24) (c48:Int→Option R48)
noncomputable def B67 (x0:Int):Option R67:=(c48 x0).bind fun r1=>((c24 (r1.1,r1.2)).bind fun r2=>(some (r2.1,r2.2)))
theorem e67 (s:ask67.T):evFn E0 (orcOf (fes67 c24 c48)) an67 (loOf (les67)) 6 cd67 Try.f67.results.toList rm67 (ask67.mk' s) (decW rsk67 dec67)=B67 c24 c48 s.1.1:=by kernel_rfl
end
noncomputable def an43:Ann:=⟨[],[],[]⟩
noncomputable def cd43:Code:=(Try.f43.body).getD .skip
noncomputable def rm43:List RM:=[.d (.ag (.pr (.ag (.pr .bo .st)) .st)), .d .bo]
noncomputable def les43:List (LoE R43):=[]
noncomputable def fes43 (c66:TI→Option R66) (c67:Int→Option R67):List FE:=[(fe66 c66),(fe67 c67)]
section
variable (c66:TI→Option R66) (c67:Int→Option R67)
noncomputable def B43 (x0:TQ):Option R43:=(c66 x0.1).bind fun r1=>((c66 (false,x0.2)).bind fun r2=>(cnd ((!r1.2.2)) ((c67 0).bind fun r3=>(some (r3.1,r3.2,false))) (cnd ((!r2.2.2)) ((c67 0).bind fun r4=>(some (r4.1,r4.2,false))) (some ((r1.1,r1.2.1),r2.2.1,true)))))
theorem e43 (s:ask43.T):evFn E0 (orcOf (fes43 c66 c67)) an43 (loOf (les43)) 32 cd43 Try.f43.results.toList rm43 (ask43.mk' s) (decW rsk43 dec43)=B43 c66 c67 s.1.1:=by kernel_rfl
end
noncomputable def an17:Ann:=⟨[],[],[]⟩
noncomputable def cd17:Code:=(Try.f17.body).getD .skip
noncomputable def rm17:List RM:=[.d (.ag (.pr (.ag (.pr .bo .st)) .st)), .d .bo, .d (.it .i64)]
noncomputable def les17:List (LoE R17):=[]
noncomputable def fes17 (c35:TQ→Option R35) (c43:TQ→Option R43):List FE:=[(fe35 c35),(fe43 c43)]
section
variable (c35:TQ→Option R35) (c43:TQ→Option R43)
noncomputable def B17 (x0:TQ):Option R17:=(c35 x0).bind fun r1=>(if r1≠0 then(some ((false,(⟨#[]⟩:ByteArray)),(⟨#[]⟩:ByteArray),false,r1))else((c43 x0).bind fun r2=>(cnd ((!r2.2.2)) (some ((false,(⟨#[]⟩:ByteArray)),(⟨#[]⟩:ByteArray),false,0)) (some (r2.1,r2.2.1,true,0)))))
theorem e17 (s:ask17.T):evFn E0 (orcOf (fes17 c35 c43)) an17 (loOf (les17)) 23 cd17 Try.f17.results.toList rm17 (ask17.mk' s) (decW rsk17 dec17)=B17 c35 c43 s.1.1:=by kernel_rfl
end
noncomputable def an93:Ann:=⟨[],[],[]⟩
noncomputable def cd93:Code:=(Try.f93.body).getD .skip
noncomputable def rm93:List RM:=[.d (.it .i64)]
noncomputable def les93:List (LoE R93):=[]
noncomputable def fes93 (c98:ByteArray→Int→Option R98):List FE:=[(fe98 c98)]
section
variable (c98:ByteArray→Int→Option R98)
noncomputable def B93 (x0:ByteArray) (x1:Int):Option R93:=(c98 x0 x1).bind fun r1=>(some r1)
theorem e93 (s:ask93.T):evFn E0 (orcOf (fes93 c98)) an93 (loOf (les93)) 8 cd93 Try.f93.results.toList rm93 (ask93.mk' s) (decW rsk93 dec93)=B93 c98 s.1.1 s.1.2.1:=by kernel_rfl
end
noncomputable def an82:Ann:=⟨[(15,[(0, .any),(1, .any),(5, .any),(6, .any),(7, .any),(8, .any),(9, .any),(10, .any),(85, .any),(86, .any),(87, .any),(88, .any),(89, .any),(90, .any),(91, .any),(92, .any),(103, .any),(104, .any),(105, .any),(106, .any),(122, .any),(123, .any),(124, .any),(125, .any),(126, .any),(129, .any),(130, .any),(131, .any)])],[],[]⟩
noncomputable def cd82:Code:=(Try.f82.body).getD .skip
noncomputable def p82:List Pos:=posns an82 [] cd82
noncomputable def rm82:List RM:=[.d (.it .i64)]
noncomputable def k82l0:Sk:=⟨[],[]⟩
noncomputable def les82 (gl0:Option R82):List (LoE R82):=[⟨15,k82l0,fun s=>gl0⟩]
noncomputable def fes82 (c93:ByteArray→Int→Option R93):List FE:=[(fe93 c93)]
section
variable (gl0:Option R82) (c93:ByteArray→Int→Option R93)
noncomputable def B82l0:Option R82:=none
noncomputable def B82 (x0:ByteArray) (x1:ByteArray):Option R82:=if(x1.size:Int)=0 then(some 0)else(cnd ((x1.toList==x0.toList)) (some 0) (if(x1.size:Int)=1 then(if(0:Int)≤0 then(if 0<(x1.size:Int)then((c93 x0 (bt x1 0)).bind fun r1=>(some r1))else(none))else(none))else(if(x1.size:Int)≥(x0.size:Int)then(some (-1))else(none))))
theorem e82 (s:ask82.T):evFn E0 (orcOf (fes82 c93)) an82 (loOf (les82 gl0)) 143 cd82 Try.f82.results.toList rm82 (ask82.mk' s) (decW rsk82 dec82)=B82 c93 s.1.1 s.1.2.1:=by kernel_rfl
end
noncomputable def an68:Ann:=⟨[],[],[]⟩
noncomputable def cd68:Code:=(Try.f68.body).getD .skip
noncomputable def rm68:List RM:=[.d .st, .d .st, .d .bo]
noncomputable def les68:List (LoE R68):=[]
noncomputable def fes68 (c82:ByteArray→ByteArray→Option R82):List FE:=[(fe82 c82)]
section
variable (c82:ByteArray→ByteArray→Option R82)
noncomputable def B68 (x0:ByteArray) (x1:ByteArray):Option R68:=(c82 x0 x1).bind fun r1=>(if r1≥0 then(if(0:Int)≤0 then(if 0≤r1 then(if r1≤(x0.size:Int)then(if(x0.size:Int)≤(x0.size:Int)then(if 0≤wrap64 (r1+(x1.size:Int))then(if wrap64 (r1+(x1.size:Int))≤(x0.size:Int)then(if(x0.size:Int)≤(x0.size:Int)then(if(x0.size:Int)≤(x0.size:Int)then(some (x0.extract ((0:Int).toNat) ((r1:Int).toNat),x0.extract ((wrap64 (r1+(x1.size:Int)):Int).toNat) (((x0.size:Int):Int).toNat),true))else(none))else(none))else(none))else(none))else(none))else(none))else(none))else(none))else(some (x0,(⟨#[]⟩:ByteArray),false)))
theorem e68 (s:ask68.T):evFn E0 (orcOf (fes68 c82)) an68 (loOf (les68)) 23 cd68 Try.f68.results.toList rm68 (ask68.mk' s) (decW rsk68 dec68)=B68 c82 s.1.1 s.1.2.1:=by kernel_rfl
end
noncomputable def an44:Ann:=⟨[],[],[]⟩
noncomputable def cd44:Code:=(Try.f44.body).getD .skip
noncomputable def rm44:List RM:=[.d .st, .d .st, .d .bo]
noncomputable def les44:List (LoE R44):=[]
noncomputable def fes44 (c68:ByteArray→ByteArray→Option R68):List FE:=[(fe68 c68)]
section
variable (c68:ByteArray→ByteArray→Option R68)
noncomputable def B44 (x0:ByteArray) (x1:ByteArray):Option R44:=(c68 x0 x1).bind fun r1=>(some (r1.1,r1.2.1,r1.2.2))
theorem e44 (s:ask44.T):evFn E0 (orcOf (fes44 c68)) an44 (loOf (les44)) 13 cd44 Try.f44.results.toList rm44 (ask44.mk' s) (decW rsk44 dec44)=B44 c68 s.1.1 s.1.2.1:=by kernel_rfl
end
noncomputable def an71:Ann:=⟨[],[],[]⟩
noncomputable def cd71:Code:=(Try.f71.body).getD .skip
noncomputable def rm71:List RM:=[.d .st, .d (.it .i64)]
noncomputable def les71:List (LoE R71):=[]
noncomputable def fes71:List FE:=[]
noncomputable def B71 (x0:ByteArray):Option R71:=if(x0.size:Int)>1024 then(some ((⟨#[]⟩:ByteArray),4))else(some (x0,0))
theorem e71 (s:ask71.T):evFn E0 (orcOf (fes71)) an71 (loOf (les71)) 8 cd71 Try.f71.results.toList rm71 (ask71.mk' s) (decW rsk71 dec71)=B71 s.1.1:=by kernel_rfl
noncomputable def an46:Ann:=⟨[(6,[(0, .any),(26, .any),(27, .any)]),(13,[(0, .any),(5, .any),(6, .any)]),(16,[(0, .any),(5, .any),(6, .any),(7, .any),(8, .any),(9, .any)])],[],[]⟩
noncomputable def cd46:Code:=(Try.f46.body).getD .skip
noncomputable def p46:List Pos:=posns an46 [] cd46
noncomputable def rm46:List RM:=[.d .st, .d (.it .i64)]
noncomputable def rk46 (s0:SbT ask46.bl):KX R46:=retK E0 Try.f46.results.toList rm46 (mkB ask46.bl s0) (decW rsk46 dec46)
noncomputable def k46l0:Sk:=⟨[(0, .d .st),(26, .d (.it .i64)),(27, .d (.it .i64))],[]⟩
noncomputable def k46l1:Sk:=⟨[(0, .d .st),(5, .d .st),(6, .d (.it .i64))],[]⟩
noncomputable def k46l2:Sk:=⟨[(0, .d .st),(5, .d .st),(6, .d (.it .i64)),(7, .d (.it .i64)),(8, .d (.it .u64)),(9, .d (.it .u64))],[]⟩
noncomputable def les46 (gl0:ByteArray→Int→Int→Option R46) (gl1:ByteArray→ByteArray→Int→Option R46) (gl2:ByteArray→ByteArray→Int→Int→Int→Int→Option R46):List (LoE R46):=[⟨6,k46l0,fun s=>gl0 s.1.1 s.1.2.1 s.1.2.2.1⟩,⟨13,k46l1,fun s=>gl1 s.1.1 s.1.2.1 s.1.2.2.1⟩,⟨16,k46l2,fun s=>gl2 s.1.1 s.1.2.1 s.1.2.2.1 s.1.2.2.2.1 s.1.2.2.2.2.1 s.1.2.2.2.2.2.1⟩]
noncomputable def fes46 (c61:ByteArray→ByteArray→Option R61) (c69:ByteArray→ByteArray→Option R69) (c70:Int→Option R70) (c71:ByteArray→Option R71):List FE:=[(fe61 c61),(fe69 c69),(fe70 c70),(fe71 c71)]
section
variable (gl0:ByteArray→Int→Int→Option R46) (gl1:ByteArray→ByteArray→Int→Option R46) (gl2:ByteArray→ByteArray→Int→Int→Int→Int→Option R46) (c61:ByteArray→ByteArray→Option R61) (c69:ByteArray→ByteArray→Option R69) (c70:Int→Option R70) (c71:ByteArray→Option R71)
noncomputable def B46l0 (x0:ByteArray) (x26:Int) (x27:Int):Option R46:=if x27<x26 then(if 0≤x27 then(if x27<(x0.size:Int)then(if bt x0 x27<48 then(some ((⟨#[]⟩:ByteArray),11))else(if 0≤x27 then(if x27<(x0.size:Int)then(if bt x0 x27>57 then(some ((⟨#[]⟩:ByteArray),11))else(gl0 x0 x26 (wrap64 (x27+1))))else(none))else(none)))else(none))else(none))else(gl1 x0 (⟨#[]⟩:ByteArray) 0)
theorem e46l0 (s0:SbT ask46.bl) (s:k46l0.T):evPos E0 (orcOf (fes46 c61 c69 c70 c71)) 76 an46 (loOf (les46 gl0 gl1 gl2)) (rk46 s0) (p46.getD 0 ⟨0,[], .skip⟩) (k46l0.mk' s)=B46l0 gl0 gl1 s.1.1 s.1.2.1 s.1.2.2.1:=by kernel_rfl
noncomputable def B46l1 (x0:ByteArray) (x5:ByteArray) (x6:Int):Option R46:=if x6<(x0.size:Int)then(gl2 x0 x5 x6 (mn (x0.size:Int) (wrap64 (x6+18))) 0 1)else((c71 x5).bind fun r1=>(some (r1.1,r1.2)))
theorem e46l1 (s0:SbT ask46.bl) (s:k46l1.T):evPos E0 (orcOf (fes46 c61 c69 c70 c71)) 76 an46 (loOf (les46 gl0 gl1 gl2)) (rk46 s0) (p46.getD 1 ⟨0,[], .skip⟩) (k46l1.mk' s)=B46l1 gl2 c71 s.1.1 s.1.2.1 s.1.2.2.1:=by kernel_rfl
noncomputable def B46l2 (x0:ByteArray) (x5:ByteArray) (x6:Int) (x7:Int) (x8:Int) (x9:Int):Option R46:=if x6<x7 then(if 0≤x6 then(if x6<(x0.size:Int)then(gl2 x0 x5 (wrap64 (x6+1)) x7 (IntKind.u64.wrap ((IntKind.u64.wrap (10*x8))+(IntKind.u64.wrap (IntKind.u8.wrap ((bt x0 x6)-48))))) (IntKind.u64.wrap (10*x9)))else(none))else(none))else((c70 x9).bind fun r1=>((c61 x5 r1).bind fun r2=>((c70 x8).bind fun r3=>((c69 r2 r3).bind fun r4=>(gl1 x0 r4 x6)))))
theorem e46l2 (s0:SbT ask46.bl) (s:k46l2.T):evPos E0 (orcOf (fes46 c61 c69 c70 c71)) 76 an46 (loOf (les46 gl0 gl1 gl2)) (rk46 s0) (p46.getD 2 ⟨0,[], .skip⟩) (k46l2.mk' s)=B46l2 gl1 gl2 c61 c69 c70 s.1.1 s.1.2.1 s.1.2.2.1 s.1.2.2.2.1 s.1.2.2.2.2.1 s.1.2.2.2.2.2.1:=by kernel_rfl
noncomputable def B46 (x0:ByteArray):Option R46:=if(x0.size:Int)>4096 then(some ((⟨#[]⟩:ByteArray),12))else(cnd ((x0.toList==(⟨#[]⟩:ByteArray).toList)) (some ((⟨#[]⟩:ByteArray),11)) (if(0:Int)≤0 then(if 0<(x0.size:Int)then(if bt x0 0=48 then(if(x0.size:Int)>1 then(some ((⟨#[]⟩:ByteArray),11))else(gl0 x0 (x0.size:Int) 0))else(gl0 x0 (x0.size:Int) 0))else(none))else(none)))
theorem e46 (s:ask46.T):evFn E0 (orcOf (fes46 c61 c69 c70 c71)) an46 (loOf (les46 gl0 gl1 gl2)) 76 cd46 Try.f46.results.toList rm46 (ask46.mk' s) (decW rsk46 dec46)=B46 gl0 s.1.1:=by kernel_rfl
end
noncomputable def an45:Ann:=⟨[],[],[]⟩
noncomputable def cd45:Code:=(Try.f45.body).getD .skip
noncomputable def rm45:List RM:=[.d (.ag (.pr .bo .st)), .d (.it .i64)]
noncomputable def les45:List (LoE R45):=[]
noncomputable def fes45 (c46:ByteArray→Option R46) (c50:Option R50):List FE:=[(fe46 c46),(fe50 c50)]
section
variable (c46:ByteArray→Option R46) (c50:Option R50)
noncomputable def B45 (x0:ByteArray):Option R45:=if(x0.size:Int)>4096 then((c50).bind fun r1=>(some (r1.1,r1.2,12)))else(if(x0.size:Int)>0 then(if(0:Int)≤0 then(if 0<(x0.size:Int)then(if bt x0 0=45 then(if(0:Int)≤1 then(if 1≤(x0.size:Int)then(if(x0.size:Int)≤(x0.size:Int)then(if(x0.size:Int)≤(x0.size:Int)then((c46 (x0.extract ((1:Int).toNat) (((x0.size:Int):Int).toNat))).bind fun r2=>(if r2.2≠0 then((c50).bind fun r3=>(some (r3.1,r3.2,r2.2)))else(if bt x0 0=45 then(cnd ((r2.1.toList==(⟨#[]⟩:ByteArray).toList)) ((c50).bind fun r4=>(some (r4.1,r4.2,11))) (some (decide (bt x0 0=45),r2.1,0)))else(some (decide (bt x0 0=45),r2.1,0)))))else(none))else(none))else(none))else(none))else((c46 x0).bind fun r5=>(if r5.2≠0 then((c50).bind fun r6=>(some (r6.1,r6.2,r5.2)))else(if bt x0 0=45 then(cnd ((r5.1.toList==(⟨#[]⟩:ByteArray).toList)) ((c50).bind fun r7=>(some (r7.1,r7.2,11))) (some (decide (bt x0 0=45),r5.1,0)))else(some (decide (bt x0 0=45),r5.1,0))))))else(none))else(none))else((c46 x0).bind fun r8=>(if r8.2≠0 then((c50).bind fun r9=>(some (r9.1,r9.2,r8.2)))else(some (false,r8.1,0)))))
theorem e45 (s:ask45.T):evFn E0 (orcOf (fes45 c46 c50)) an45 (loOf (les45)) 40 cd45 Try.f45.results.toList rm45 (ask45.mk' s) (decW rsk45 dec45)=B45 c46 c50 s.1.1:=by kernel_rfl
end
noncomputable def an18:Ann:=⟨[],[],[]⟩
noncomputable def cd18:Code:=(Try.f18.body).getD .skip
noncomputable def rm18:List RM:=[.d (.ag (.pr (.ag (.pr .bo .st)) .st)), .d (.it .i64)]
noncomputable def les18:List (LoE R18):=[]
noncomputable def fes18 (c35:TQ→Option R35) (c44:ByteArray→ByteArray→Option R44) (c45:ByteArray→Option R45) (c46:ByteArray→Option R46):List FE:=[(fe35 c35),(fe44 c44),(fe45 c45),(fe46 c46)]
section
variable (c35:TQ→Option R35) (c44:ByteArray→ByteArray→Option R44) (c45:ByteArray→Option R45) (c46:ByteArray→Option R46)
noncomputable def B18 (x0:ByteArray):Option R18:=if(x0.size:Int)>4096 then(some ((false,(⟨#[]⟩:ByteArray)),(⟨#[]⟩:ByteArray),12))else((c44 x0 (⟨#[47]⟩:ByteArray)).bind fun r1=>((c45 r1.1).bind fun r2=>(cnd (r1.2.2) ((c46 r1.2.1).bind fun r3=>(if r2.2.2=11 then(some ((false,(⟨#[]⟩:ByteArray)),(⟨#[]⟩:ByteArray),11))else(if r3.2=11 then(some ((false,(⟨#[]⟩:ByteArray)),(⟨#[]⟩:ByteArray),11))else(if r2.2.2≠0 then(some ((false,(⟨#[]⟩:ByteArray)),(⟨#[]⟩:ByteArray),4))else(if r3.2≠0 then(some ((false,(⟨#[]⟩:ByteArray)),(⟨#[]⟩:ByteArray),4))else(cnd (r1.2.2) (cnd ((r3.1.toList==(⟨#[]⟩:ByteArray).toList)) (some ((false,(⟨#[]⟩:ByteArray)),(⟨#[]⟩:ByteArray),1)) (cnd ((r3.1.toList==(⟨#[1]⟩:ByteArray).toList)) (some ((false,(⟨#[]⟩:ByteArray)),(⟨#[]⟩:ByteArray),1)) ((c35 ((r2.1,r2.2.1),r3.1)).bind fun r4=>(if r4≠0 then(some ((false,(⟨#[]⟩:ByteArray)),(⟨#[]⟩:ByteArray),r4))else(some ((r2.1,r2.2.1),r3.1,0)))))) ((c35 ((r2.1,r2.2.1),r3.1)).bind fun r5=>(if r5≠0 then(some ((false,(⟨#[]⟩:ByteArray)),(⟨#[]⟩:ByteArray),r5))else(some ((r2.1,r2.2.1),r3.1,0)))))))))) (if r2.2.2=11 then(some ((false,(⟨#[]⟩:ByteArray)),(⟨#[]⟩:ByteArray),11))else(if r2.2.2≠0 then(some ((false,(⟨#[]⟩:ByteArray)),(⟨#[]⟩:ByteArray),4))else(cnd (r1.2.2) (cnd (((⟨#[1]⟩:ByteArray).toList==(⟨#[]⟩:ByteArray).toList)) (some ((false,(⟨#[]⟩:ByteArray)),(⟨#[]⟩:ByteArray),1)) (cnd (((⟨#[1]⟩:ByteArray).toList==(⟨#[1]⟩:ByteArray).toList)) (some ((false,(⟨#[]⟩:ByteArray)),(⟨#[]⟩:ByteArray),1)) ((c35 ((r2.1,r2.2.1),(⟨#[1]⟩:ByteArray))).bind fun r6=>(if r6≠0 then(some ((false,(⟨#[]⟩:ByteArray)),(⟨#[]⟩:ByteArray),r6))else(some ((r2.1,r2.2.1),(⟨#[1]⟩:ByteArray),0)))))) ((c35 ((r2.1,r2.2.1),(⟨#[1]⟩:ByteArray))).bind fun r7=>(if r7≠0 then(some ((false,(⟨#[]⟩:ByteArray)),(⟨#[]⟩:ByteArray),r7))else(some ((r2.1,r2.2.1),(⟨#[1]⟩:ByteArray),0))))))))))
theorem e18 (s:ask18.T):evFn E0 (orcOf (fes18 c35 c44 c45 c46)) an18 (loOf (les18)) 71 cd18 Try.f18.results.toList rm18 (ask18.mk' s) (decW rsk18 dec18)=B18 c35 c44 c45 c46 s.1.1:=by kernel_rfl
end
noncomputable def an4:Ann:=⟨[],[],[]⟩
noncomputable def cd4:Code:=(Try.f4.body).getD .skip
noncomputable def p4:List Pos:=posns an4 [] cd4
noncomputable def rm4:List RM:=[.d .bo]
noncomputable def les4:List (LoE R4):=[]
noncomputable def fes4 (c5:Int→Int→Option R5) (c9:Int→Int→Option R9) (c13:TQ→TQ→Option R13) (c14:TQ→Option R14) (c15:TQ→Option R15) (c16:TQ→Int→Option R16) (c17:TQ→Option R17) (c18:ByteArray→Option R18) (c19:Int→Option R19):List FE:=[(fe5 c5),(fe9 c9),(fe13 c13),(fe14 c14),(fe15 c15),(fe16 c16),(fe17 c17),(fe18 c18),(fe19 c19)]
section
variable (c5:Int→Int→Option R5) (c9:Int→Int→Option R9) (c13:TQ→TQ→Option R13) (c14:TQ→Option R14) (c15:TQ→Option R15) (c16:TQ→Int→Option R16) (c17:TQ→Option R17) (c18:ByteArray→Option R18) (c19:Int→Option R19)
noncomputable def B4:Option R4:=(c5 6 (-4)).bind fun r1=>((c9 1 2).bind fun r2=>((c9 1 3).bind fun r3=>((c13 (r2.1,r2.2) (r3.1,r3.2)).bind fun r4=>((c9 (-3) 2).bind fun r5=>((c14 (r5.1,r5.2)).bind fun r6=>((c9 (-3) 2).bind fun r7=>((c15 (r7.1,r7.2)).bind fun r8=>((c9 (-3) 2).bind fun r9=>((c16 (r9.1,r9.2) (-2)).bind fun r10=>((c9 9 4).bind fun r11=>((c17 (r11.1,r11.2)).bind fun r12=>((c18 (⟨#[50,47,52]⟩:ByteArray)).bind fun r13=>((c18 (⟨#[45,48]⟩:ByteArray)).bind fun r14=>(if r1.2.2≠0 then(some false)else(if r4.2.2≠0 then(some false)else(if r6.2.2≠0 then(some false)else(if r8.2.2≠0 then(some false)else(if r10.2.2≠0 then(some false)else(if r12.2.2.2≠0 then(some false)else(if r13.2.2≠1 then(some false)else(if r14.2.2≠11 then(some false)else(cnd ((!r12.2.2.1)) (some false) ((c9 (-3) 2).bind fun r15=>(cnd ((((r1.1.1==r15.1.1)&&(r1.1.2.toList==r15.1.2.toList))&&(r1.2.1.toList==r15.2.toList))) ((c9 5 6).bind fun r16=>(cnd ((((r4.1.1==r16.1.1)&&(r4.1.2.toList==r16.1.2.toList))&&(r4.2.1.toList==r16.2.toList))) ((c19 (-2)).bind fun r17=>(cnd (((r6.1==r17.1)&&(r6.2.1.toList==r17.2.toList))) ((c19 (-1)).bind fun r18=>(cnd (((r8.1==r18.1)&&(r8.2.1.toList==r18.2.toList))) ((c9 4 9).bind fun r19=>(cnd ((((r10.1.1==r19.1.1)&&(r10.1.2.toList==r19.1.2.toList))&&(r10.2.1.toList==r19.2.toList))) ((c9 3 2).bind fun r20=>(some (((r12.1.1==r20.1.1)&&(r12.1.2.toList==r20.1.2.toList))&&(r12.2.1.toList==r20.2.toList)))) (some false))) (some false))) (some false))) (some false))) (some false)))))))))))))))))))))))))
theorem e4 (s:ask4.T):evFn E0 (orcOf (fes4 c5 c9 c13 c14 c15 c16 c17 c18 c19)) an4 (loOf (les4)) 119 cd4 Try.f4.results.toList rm4 (ask4.mk' s) (decW rsk4 dec4)=B4 c5 c9 c13 c14 c15 c16 c17 c18 c19:=by kernel_rfl
end
noncomputable def an6:Ann:=⟨[(2,[(2, .any),(3, .any),(4, .any),(11, .any),(12, .any),(13, .any)])],[],[]⟩
noncomputable def cd6:Code:=(Try.f6.body).getD .skip
noncomputable def p6:List Pos:=posns an6 [] cd6
noncomputable def rm6:List RM:=[.d (.ag (.pr (.ag (.pr .bo .st)) .st)), .d (.it .i64)]
noncomputable def rk6 (s0:SbT ask6.bl):KX R6:=retK E0 Try.f6.results.toList rm6 (mkB ask6.bl s0) (decW rsk6 dec6)
noncomputable def k6l0:Sk:=⟨[(2, .f (.a (.ptr 2 0 []))),(3, .f (.a (.ptr 3 0 []))),(4, .f (.a (.ptr 4 0 []))),(11, .f (.a (.ref 11))),(12, .d (.it .i64)),(13, .d (.it .i64))],[(2, .cell (.ag (.pr .bo .st)) true),(3, .cell (.ag (.pr .bo .st)) true),(4, .cell (.ag (.pr (.ag (.pr .bo .st)) .st)) true),(11, .own (.ag (.pr .bo .st)) true)]⟩
noncomputable def les6 (gl0:Int→Int→TI→TI→TQ→(List TI)→Option R6):List (LoE R6):=[⟨2,k6l0,fun s=>gl0 s.1.1 s.1.2.1 s.2.1 s.2.2.1 s.2.2.2.1 s.2.2.2.2.1⟩]
noncomputable def fes6 (c21:TI→Option R21) (c22:TQ→Option R22) (c23:TI→TI→Option R23):List FE:=[(fe21 c21),(fe22 c22),(fe23 c23)]
section
variable (gl0:Int→Int→TI→TI→TQ→(List TI)→Option R6) (c21:TI→Option R21) (c22:TQ→Option R22) (c23:TI→TI→Option R23)
noncomputable def B6l0 (x12:Int) (x13:Int) (x2:TI) (x3:TI) (x4:TQ) (x11:(List TI)):Option R6:=if x13<x12 then(if 0≤x13 then(if x13<(x11.length:Int)then((c21 (rdOf (false,(⟨#[]⟩:ByteArray)) x11 x13)).bind fun r1=>(if r1≠0 then(some ((false,(⟨#[]⟩:ByteArray)),(⟨#[]⟩:ByteArray),r1))else(gl0 x12 (wrap64 (x13+1)) x2 x3 x4 x11)))else(none))else(none))else(cnd (((x3.1==false)&&(x3.2.toList==(⟨#[]⟩:ByteArray).toList))) (some ((false,(⟨#[]⟩:ByteArray)),(⟨#[]⟩:ByteArray),6)) ((c23 x2 x3).bind fun r2=>((c22 (r2.1,r2.2)).bind fun r3=>(some (r3.1,r3.2.1,r3.2.2)))))
theorem e6l0 (s0:SbT ask6.bl) (s:k6l0.T):evPos E0 (orcOf (fes6 c21 c22 c23)) 34 an6 (loOf (les6 gl0)) (rk6 s0) (p6.getD 0 ⟨0,[], .skip⟩) (k6l0.mk' s)=B6l0 gl0 c21 c22 c23 s.1.1 s.1.2.1 s.2.1 s.2.2.1 s.2.2.2.1 s.2.2.2.2.1:=by kernel_rfl
noncomputable def B6 (x0:TI) (x1:TI):Option R6:=gl0 2 0 x0 x1 ((false,(⟨#[]⟩:ByteArray)),(⟨#[]⟩:ByteArray)) ([x0,x1]:List TI)
theorem e6 (s:ask6.T):evFn E0 (orcOf (fes6 c21 c22 c23)) an6 (loOf (les6 gl0)) 34 cd6 Try.f6.results.toList rm6 (ask6.mk' s) (decW rsk6 dec6)=B6 gl0 s.1.1 s.1.2.1:=by kernel_rfl
end
noncomputable def an7:Ann:=⟨[],[],[]⟩
noncomputable def cd7:Code:=(Try.f7.body).getD .skip
noncomputable def p7:List Pos:=posns an7 [] cd7
noncomputable def rm7:List RM:=[.d (.ag (.pr (.ag (.pr .bo .st)) .st)), .d (.it .i64)]
noncomputable def les7:List (LoE R7):=[]
noncomputable def fes7 (c21:TI→Option R21) (c24:TI→Option R24):List FE:=[(fe21 c21),(fe24 c24)]
section
variable (c21:TI→Option R21) (c24:TI→Option R24)
noncomputable def B7 (x0:TI):Option R7:=(c21 x0).bind fun r1=>(if r1≠0 then(some ((false,(⟨#[]⟩:ByteArray)),(⟨#[]⟩:ByteArray),r1))else((c24 x0).bind fun r2=>(some (r2.1,r2.2,0))))
theorem e7 (s:ask7.T):evFn E0 (orcOf (fes7 c21 c24)) an7 (loOf (les7)) 13 cd7 Try.f7.results.toList rm7 (ask7.mk' s) (decW rsk7 dec7)=B7 c21 c24 s.1.1:=by kernel_rfl
end
noncomputable def an55:Ann:=⟨[],[],[]⟩
noncomputable def cd55:Code:=(Try.f55.body).getD .skip
noncomputable def rm55:List RM:=[.d (.it .i64)]
noncomputable def les55:List (LoE R55):=[]
noncomputable def fes55:List FE:=[]
noncomputable def B55 (x0:ByteArray):Option R55:=if(x0.size:Int)>1024 then(some 4)else(some 0)
theorem e55 (s:ask55.T):evFn E0 (orcOf (fes55)) an55 (loOf (les55)) 6 cd55 Try.f55.results.toList rm55 (ask55.mk' s) (decW rsk55 dec55)=B55 s.1.1:=by kernel_rfl
noncomputable def an28:Ann:=⟨[],[],[]⟩
noncomputable def cd28:Code:=(Try.f28.body).getD .skip
noncomputable def rm28:List RM:=[.d (.it .i64)]
noncomputable def les28:List (LoE R28):=[]
noncomputable def fes28 (c55:ByteArray→Option R55):List FE:=[(fe55 c55)]
section
variable (c55:ByteArray→Option R55)
noncomputable def B28 (x0:TI):Option R28:=(c55 x0.2).bind fun r1=>(some r1)
theorem e28 (s:ask28.T):evFn E0 (orcOf (fes28 c55)) an28 (loOf (les28)) 6 cd28 Try.f28.results.toList rm28 (ask28.mk' s) (decW rsk28 dec28)=B28 c55 s.1.1:=by kernel_rfl
end
noncomputable def an25:Ann:=⟨[],[],[]⟩
noncomputable def cd25:Code:=(Try.f25.body).getD .skip
noncomputable def rm25:List RM:=[.d (.it .i64)]
noncomputable def les25:List (LoE R25):=[]
noncomputable def fes25 (c28:TI→Option R28) (c55:ByteArray→Option R55):List FE:=[(fe28 c28),(fe55 c55)]
section
variable (c28:TI→Option R28) (c55:ByteArray→Option R55)
noncomputable def B25 (x0:TQ):Option R25:=(c28 x0.1).bind fun r1=>(if r1≠0 then(some 4)else((c55 x0.2).bind fun r2=>(some r2)))
theorem e25 (s:ask25.T):evFn E0 (orcOf (fes25 c28 c55)) an25 (loOf (les25)) 10 cd25 Try.f25.results.toList rm25 (ask25.mk' s) (decW rsk25 dec25)=B25 c28 c55 s.1.1:=by kernel_rfl
end
noncomputable def an8:Ann:=⟨[],[],[]⟩
noncomputable def cd8:Code:=(Try.f8.body).getD .skip
noncomputable def p8:List Pos:=posns an8 [] cd8
noncomputable def rm8:List RM:=[.d .bo]
noncomputable def les8:List (LoE R8):=[]
noncomputable def fes8 (c25:TQ→Option R25):List FE:=[(fe25 c25)]
section
variable (c25:TQ→Option R25)
noncomputable def B8 (x0:TQ) (x1:Int) (x2:Int) (x3:TQ):Option R8:=if x2=0 then((c25 x3).bind fun r1=>(if r1≠0 then(cnd ((((x0.1.1==false)&&(x0.1.2.toList==(⟨#[]⟩:ByteArray).toList))&&(x0.2.toList==(⟨#[]⟩:ByteArray).toList))) (some (decide (x1=r1))) (some false))else(cnd ((((x0.1.1==x3.1.1)&&(x0.1.2.toList==x3.1.2.toList))&&(x0.2.toList==x3.2.toList))) (some (decide (x1=0))) (some false))))else(if x2≠0 then(cnd ((((x0.1.1==false)&&(x0.1.2.toList==(⟨#[]⟩:ByteArray).toList))&&(x0.2.toList==(⟨#[]⟩:ByteArray).toList))) (some (decide (x1=x2))) (some false))else(cnd ((((x0.1.1==x3.1.1)&&(x0.1.2.toList==x3.1.2.toList))&&(x0.2.toList==x3.2.toList))) (some (decide (x1=0))) (some false)))
theorem e8 (s:ask8.T):evFn E0 (orcOf (fes8 c25)) an8 (loOf (les8)) 30 cd8 Try.f8.results.toList rm8 (ask8.mk' s) (decW rsk8 dec8)=B8 c25 s.1.1 s.1.2.1 s.1.2.2.1 s.1.2.2.2.1:=by kernel_rfl
end
noncomputable def an56:Ann:=⟨[],[],[]⟩
noncomputable def cd56:Code:=(Try.f56.body).getD .skip
noncomputable def rm56:List RM:=[.d .bo]
noncomputable def les56:List (LoE R56):=[]
noncomputable def fes56:List FE:=[]
noncomputable def B56 (x0:ByteArray):Option R56:=cnd ((x0.toList==(⟨#[]⟩:ByteArray).toList)) (some true) (if(0:Int)≤0 then(if 0<(x0.size:Int)then(some (decide (bt x0 0≠0)))else(none))else(none))
theorem e56 (s:ask56.T):evFn E0 (orcOf (fes56)) an56 (loOf (les56)) 10 cd56 Try.f56.results.toList rm56 (ask56.mk' s) (decW rsk56 dec56)=B56 s.1.1:=by kernel_rfl
noncomputable def an27:Ann:=⟨[],[],[]⟩
noncomputable def cd27:Code:=(Try.f27.body).getD .skip
noncomputable def rm27:List RM:=[.d .bo]
noncomputable def les27:List (LoE R27):=[]
noncomputable def fes27 (c56:ByteArray→Option R56):List FE:=[(fe56 c56)]
section
variable (c56:ByteArray→Option R56)
noncomputable def B27 (x0:TI):Option R27:=(c56 x0.2).bind fun r1=>(cnd (r1) (cnd ((!x0.1)) (some true) (some (!(x0.2.toList==(⟨#[]⟩:ByteArray).toList)))) (some false))
theorem e27 (s:ask27.T):evFn E0 (orcOf (fes27 c56)) an27 (loOf (les27)) 16 cd27 Try.f27.results.toList rm27 (ask27.mk' s) (decW rsk27 dec27)=B27 c56 s.1.1:=by kernel_rfl
end
noncomputable def an10:Ann:=⟨[],[],[]⟩
noncomputable def cd10:Code:=(Try.f10.body).getD .skip
noncomputable def rm10:List RM:=[.d (.it .i64)]
noncomputable def les10:List (LoE R10):=[]
noncomputable def fes10 (c27:TI→Option R27) (c28:TI→Option R28):List FE:=[(fe27 c27),(fe28 c28)]
section
variable (c27:TI→Option R27) (c28:TI→Option R28)
noncomputable def B10 (x0:TI):Option R10:=(c27 x0).bind fun r1=>(cnd ((!r1)) (some 1) ((c28 x0).bind fun r2=>(some r2)))
theorem e10 (s:ask10.T):evFn E0 (orcOf (fes10 c27 c28)) an10 (loOf (les10)) 8 cd10 Try.f10.results.toList rm10 (ask10.mk' s) (decW rsk10 dec10)=B10 c27 c28 s.1.1:=by kernel_rfl
end
noncomputable def an11:Ann:=⟨[],[],[]⟩
noncomputable def cd11:Code:=(Try.f11.body).getD .skip
noncomputable def rm11:List RM:=[.d (.ag (.pr (.ag (.pr .bo .st)) .st))]
noncomputable def les11:List (LoE R11):=[]
noncomputable def fes11:List FE:=[]
noncomputable def B11 (x0:TI):Option R11:=some (x0,(⟨#[1]⟩:ByteArray))
theorem e11 (s:ask11.T):evFn E0 (orcOf (fes11)) an11 (loOf (les11)) 5 cd11 Try.f11.results.toList rm11 (ask11.mk' s) (decW rsk11 dec11)=B11 s.1.1:=by kernel_rfl
noncomputable def an3:Ann:=⟨[],[],[]⟩
noncomputable def cd3:Code:=(Try.f3.body).getD .skip
noncomputable def p3:List Pos:=posns an3 [] cd3
noncomputable def rm3:List RM:=[.d .bo]
noncomputable def les3:List (LoE R3):=[]
noncomputable def fes3 (c4:Option R4) (c5:Int→Int→Option R5) (c6:TI→TI→Option R6) (c7:TI→Option R7) (c8:TQ→Int→Int→TQ→Option R8) (c9:Int→Int→Option R9) (c10:TI→Option R10) (c11:TI→Option R11) (c12:TI→TI→Option R12):List FE:=[(fe4 c4),(fe5 c5),(fe6 c6),(fe7 c7),(fe8 c8),(fe9 c9),(fe10 c10),(fe11 c11),(fe12 c12)]
section
variable (c4:Option R4) (c5:Int→Int→Option R5) (c6:TI→TI→Option R6) (c7:TI→Option R7) (c8:TQ→Int→Int→TQ→Option R8) (c9:Int→Int→Option R9) (c10:TI→Option R10) (c11:TI→Option R11) (c12:TI→TI→Option R12)
noncomputable def B3 (x0:(Int×Int)) (x1:TI) (x2:TI):Option R3:=(c4).bind fun r1=>(cnd ((!r1)) ((c4).bind fun r2=>(some r2)) (if(x1.2.size:Int)>300 then((c4).bind fun r3=>(some r3))else(if(x2.2.size:Int)>300 then((c4).bind fun r4=>(some r4))else((c5 x0.1 x0.2).bind fun r5=>((c6 x1 x2).bind fun r6=>((c7 x1).bind fun r7=>(if x0.2=0 then((c9 x0.1 x0.2).bind fun r8=>((c8 (r5.1,r5.2.1) r5.2.2 6 (r8.1,r8.2)).bind fun r9=>(cnd ((!r9)) (some false) ((c10 x1).bind fun r10=>((c11 x1).bind fun r11=>((c8 (r7.1,r7.2.1) r7.2.2 r10 (r11.1,r11.2)).bind fun r12=>(cnd ((!r12)) (some false) ((c10 x1).bind fun r13=>(if r13=0 then((c10 x2).bind fun r14=>(if r14=0 then(cnd ((x2.2.toList==(⟨#[]⟩:ByteArray).toList)) ((c8 (r6.1,r6.2.1) r6.2.2 6 (r5.1,r5.2.1)).bind fun r15=>(some r15)) (if r14≠0 then((c8 (r6.1,r6.2.1) r6.2.2 r14 (r5.1,r5.2.1)).bind fun r16=>(some r16))else((c12 x1 x2).bind fun r17=>((c8 (r6.1,r6.2.1) r6.2.2 0 (r17.1,r17.2)).bind fun r18=>(some r18)))))else(if r14≠0 then((c8 (r6.1,r6.2.1) r6.2.2 r14 (r5.1,r5.2.1)).bind fun r19=>(some r19))else((c12 x1 x2).bind fun r20=>((c8 (r6.1,r6.2.1) r6.2.2 0 (r20.1,r20.2)).bind fun r21=>(some r21))))))else(if r13=0 then(cnd ((x2.2.toList==(⟨#[]⟩:ByteArray).toList)) ((c8 (r6.1,r6.2.1) r6.2.2 6 (r5.1,r5.2.1)).bind fun r22=>(some r22)) (if r13≠0 then((c8 (r6.1,r6.2.1) r6.2.2 r13 (r5.1,r5.2.1)).bind fun r23=>(some r23))else((c12 x1 x2).bind fun r24=>((c8 (r6.1,r6.2.1) r6.2.2 0 (r24.1,r24.2)).bind fun r25=>(some r25)))))else(if r13≠0 then((c8 (r6.1,r6.2.1) r6.2.2 r13 (r5.1,r5.2.1)).bind fun r26=>(some r26))else((c12 x1 x2).bind fun r27=>((c8 (r6.1,r6.2.1) r6.2.2 0 (r27.1,r27.2)).bind fun r28=>(some r28))))))))))))))else((c9 x0.1 x0.2).bind fun r29=>((c8 (r5.1,r5.2.1) r5.2.2 0 (r29.1,r29.2)).bind fun r30=>(cnd ((!r30)) (some false) ((c10 x1).bind fun r31=>((c11 x1).bind fun r32=>((c8 (r7.1,r7.2.1) r7.2.2 r31 (r32.1,r32.2)).bind fun r33=>(cnd ((!r33)) (some false) ((c10 x1).bind fun r34=>(if r34=0 then((c10 x2).bind fun r35=>(if r35=0 then(cnd ((x2.2.toList==(⟨#[]⟩:ByteArray).toList)) ((c8 (r6.1,r6.2.1) r6.2.2 6 (r5.1,r5.2.1)).bind fun r36=>(some r36)) (if r35≠0 then((c8 (r6.1,r6.2.1) r6.2.2 r35 (r5.1,r5.2.1)).bind fun r37=>(some r37))else((c12 x1 x2).bind fun r38=>((c8 (r6.1,r6.2.1) r6.2.2 0 (r38.1,r38.2)).bind fun r39=>(some r39)))))else(if r35≠0 then((c8 (r6.1,r6.2.1) r6.2.2 r35 (r5.1,r5.2.1)).bind fun r40=>(some r40))else((c12 x1 x2).bind fun r41=>((c8 (r6.1,r6.2.1) r6.2.2 0 (r41.1,r41.2)).bind fun r42=>(some r42))))))else(if r34=0 then(cnd ((x2.2.toList==(⟨#[]⟩:ByteArray).toList)) ((c8 (r6.1,r6.2.1) r6.2.2 6 (r5.1,r5.2.1)).bind fun r43=>(some r43)) (if r34≠0 then((c8 (r6.1,r6.2.1) r6.2.2 r34 (r5.1,r5.2.1)).bind fun r44=>(some r44))else((c12 x1 x2).bind fun r45=>((c8 (r6.1,r6.2.1) r6.2.2 0 (r45.1,r45.2)).bind fun r46=>(some r46)))))else(if r34≠0 then((c8 (r6.1,r6.2.1) r6.2.2 r34 (r5.1,r5.2.1)).bind fun r47=>(some r47))else((c12 x1 x2).bind fun r48=>((c8 (r6.1,r6.2.1) r6.2.2 0 (r48.1,r48.2)).bind fun r49=>(some r49)))))))))))))))))))))
theorem e3 (s:ask3.T):evFn E0 (orcOf (fes3 c4 c5 c6 c7 c8 c9 c10 c11 c12)) an3 (loOf (les3)) 98 cd3 Try.f3.results.toList rm3 (ask3.mk' s) (decW rsk3 dec3)=B3 c4 c5 c6 c7 c8 c9 c10 c11 c12 s.1.1 s.1.2.1 s.1.2.2.1:=by kernel_rfl
end
end Go.Proofs.YtjllholdppjllaaV
namespace Go.Proofs.YtjllholdppjllaaE
open Go.RowKit Go.Proofs.YtjllholdppjllaaW.PrintWords Go.Proofs.YtjllholdppjllaaW.PrintLast Go.Proofs.YtjllholdppjllaaW.PrintMore
section
variable {α β:Type}
theorem LeO.iteL {p:Prop} [Decidable p] {a b t:Option α} (h1:p→LeO a t) (h2:¬p→LeO b t):LeO (if p then a else b) t:=by
 by_cases h:p
 ·rw [if_pos h];exact h1 h
 ·rw [if_neg h];exact h2 h
theorem LeO.bindL {x:Option β} {f:β→Option α} {t:Option α} (h:∀v,x=some v→LeO (f v) t):LeO (x.bind f) t:=by
 cases hx:x with
 |none=>intro r hr;cases hr
 |some v=>exact h v hx
theorem LeO.bindK {x:Option β} {v:β} {f:β→Option α} {t:Option α} (hx:x=some v) (h:LeO (f v) t):LeO (x.bind f) t:=by rw [hx];exact h
theorem LeO.posL {p:Prop} [Decidable p] {t a b:Option α} (hp:p) (h:LeO a t):LeO (if p then a else b) t:=by rw [if_pos hp];exact h
theorem LeO.negL {p:Prop} [Decidable p] {t a b:Option α} (hp:¬p) (h:LeO b t):LeO (if p then a else b) t:=by rw [if_neg hp];exact h
theorem LeO.posR {p:Prop} [Decidable p] {t a b:Option α} (hp:p) (h:LeO t a):LeO t (if p then a else b):=by rw [if_pos hp];exact h
theorem LeO.negR {p:Prop} [Decidable p] {t a b:Option α} (hp:¬p) (h:LeO t b):LeO t (if p then a else b):=by rw [if_neg hp];exact h
theorem LeO.nnegR {p:Prop} [Decidable p] {t a b:Option α} (hp:p) (h:LeO t b):LeO t (if¬p then a else b):=by rw [if_neg (fun q=>q hp)];exact h
theorem LeO.bindR {x:Option β} {v:β} {f:β→Option α} {t:Option α} (hx:x=some v) (h:LeO t (f v)):LeO t (x.bind f):=by rw [hx];exact h
theorem LeO.ctR {b:Bool} {t x y:Option α} (hp:b=true) (h:LeO t x):LeO t (cnd b x y):=by rw [hp];exact h
theorem LeO.cfR {b:Bool} {t x y:Option α} (hp:¬b=true) (h:LeO t y):LeO t (cnd b x y):=by
 rw [Bool.eq_false_iff.2 hp];exact h
theorem BAe:ByteArray.empty=⟨#[]⟩:=id rfl
theorem wrap_mod (x:Int):IntKind.u64.wrap (x%256)=x%256:=by
 show x%256%18446744073709551616=x%256
 omega
theorem bfalse (b:Bool):(b=false)=¬(b=true):=by cases b<;>simp
theorem ite_and_ {p q:Prop} [Decidable (p∧q)] [Decidable p] [Decidable q] (a b:α):(if p∧q then a else b)=if p then(if q then a else b)else b:=by
 by_cases h:p<;>by_cases k:q<;>simp [h,k]
theorem ite_or_ {p q:Prop} [Decidable (p∨q)] [Decidable p] [Decidable q] (a b:α):(if p∨q then a else b)=if p then a else(if q then a else b):=by
 by_cases h:p<;>by_cases k:q<;>simp [h,k]
theorem slice_def {τ:Type} (l:List τ) (i h:Int):slice_ l i h=(l.take h.toNat).drop i.toNat:=id rfl
theorem bind_some_ (a:β) (f:β→Option α):(some a).bind f=f a:=id rfl
theorem bind_assoc_ {γ:Type} (x:Option γ) (f:γ→Option β) (g:β→Option α):(x.bind f).bind g=x.bind fun y=>(f y).bind g:=by cases x<;>rfl
theorem ite_bind_ {p:Prop} [Decidable p] (x y:Option β) (f:β→Option α):(if p then x else y).bind f=if p then x.bind f else y.bind f:=by by_cases h:p<;>simp [h]
theorem isEmpty_eq (l:List UInt8):l.isEmpty=(l==[]):=by cases l<;>rfl
theorem wrap_u8 (x:Int):IntKind.u8.wrap x=x%256:=id rfl
theorem toList_mk (a:Array UInt8):(⟨a⟩:ByteArray).toList=a.toList:=ByteArray.toList_eq _
theorem cnd_eq_if (b:Bool) (x y:Option α):cnd b x y=if b=true then x else y:=by cases b<;>rfl
theorem decide_int_eq (x y:Int):(x==y)=decide (x=y):=id rfl
theorem BR {g:Prop} (h:g:=by
 (try simp only [List.take_append_drop,List.drop_length,List.append_nil,Int.zero_sub,Int.toNat_natCast,Int.reduceToNat,Int.zero_add,List.take_zero,List.nil_append,List.append_assoc,List.length_set,ite_bind_,List.take_left,BAe,bne,decide_int_eq,decide_not,wrap_mod,if_true,if_false,Bool.false_eq_true,bind_assoc_,slice_def,List.drop_zero,List.take_length,wrap_u8,bind_some_,cnd_eq_if,rdOf,ite_not,Bool.and_eq_true,Bool.or_eq_true,Bool.not_eq_true',bfalse,Bool.not_eq_false',beq_iff_eq,decide_eq_true_eq,isEmpty_eq,ite_and_,ite_or_,ne_eq,toList_mk,List.toList_toArray])
 repeat' first
 | (with_reducible exact LeO.none _)
 | (with_reducible exact LeO.refl _)
 | (with_reducible refine LeO.posR (by with_reducible assumption) ?_)
 | (with_reducible refine LeO.negR (by with_reducible assumption) ?_)
 | (with_reducible refine LeO.nnegR (by with_reducible assumption) ?_)
 | (with_reducible refine LeO.bindR (by with_reducible assumption) ?_)
 | (with_reducible refine LeO.ctR (by with_reducible assumption) ?_)
 | (with_reducible refine LeO.cfR (by with_reducible assumption) ?_)
 | (with_reducible refine LeO.posL (by with_reducible assumption) ?_)
 | (with_reducible refine LeO.negL (by with_reducible assumption) ?_)
 | (with_reducible refine LeO.iteL (fun _=>?_) (fun _=>?_))
 | (with_reducible refine LeO.bindK (by with_reducible assumption) ?_)
 | (with_reducible refine LeO.bindL (fun _ _=>?_))
 | (refine LeO.posR (by first|decide|exact Int.le_refl _|omega|assumption) ?_)
 | (refine LeO.negR (by first|decide|omega) ?_)):g:=h
end
end Go.Proofs.YtjllholdppjllaaE
namespace Go.Proofs.Ytjllholdppjllaa.All
open Go.RowKit Go.Proofs.YtjllholdppjllaaW.PrintWords Go.Proofs.YtjllholdppjllaaW.PrintLast Go.Proofs.YtjllholdppjllaaW.PrintMore
abbrev S24:=Bool×ByteArray
def z24:S24:=(false,(⟨#[]⟩:ByteArray))
abbrev S24.f0 (x:S24):Bool:=x.1
abbrev S24.f1 (x:S24):ByteArray:=x.2
def rd_T24 (xs:List S24) (i:Int):S24:=xs.getD i.toNat z24
def integer_zero.f:Option (Bool×ByteArray):=some (false,(⟨#[]⟩:ByteArray))
def natural_Check.j0:Nat→ByteArray→Bool→Option (Int)
  |0,_,_=>none
  |k+1,x0,x10=>if x10=true then(some 1)else(if(x0.size:Int)>1024 then(some 4)else(some 0))
def natural_Check.f (k:Nat) (a0:ByteArray):Option (Int):=if(a0.size:Int)>0 then(if 0<(a0.size:Int)then(natural_Check.j0 k a0 ((bt a0 0)==0))else(none))else(natural_Check.j0 k a0 false)
theorem natural_Check.U1 {g:Prop} (h:g:=by
  with_reducible repeat' first
  |exact ih0 _ _
  |exact LeO.refl _
  |exact LeO.none _
  |refine LeO.ite ?_ ?_
  |refine LeO.bind ?_ (fun _=>?_)):g:=h
theorem natural_Check.mono_l:∀k,(∀y0 y1,LeO (natural_Check.j0 k y0 y1) (natural_Check.j0 (k+1) y0 y1))
  |0=>fun _ _ r h=>by simp [natural_Check.j0]at h
  | k+1=>by
    have ih0:=natural_Check.mono_l k
    · intro y0 y1
      unfold natural_Check.j0
      exact natural_Check.U1
theorem natural_Check.mono:∀a0 k,LeO (natural_Check.f k a0) (natural_Check.f (k+1) a0):=by
  intro a0 k
  have ih0:=natural_Check.mono_l k
  unfold natural_Check.f
  exact natural_Check.U1
def integer_Check.f (k:Nat) (a0_0:Bool) (a0_1:ByteArray):Option (Int):=(natural_Check.f k a0_1).bind fun t103=>(if t103=1 then(some t103)else((integer_zero.f).bind fun bt104=>(if(!(a0_0==bt104.1)||(!(a0_1.toList==bt104.2.toList)))=true then(if a0_1.toList=([]:List UInt8)then(some 1)else(some t103))else(some t103))))
theorem integer_Check.mono:∀a0 a1 k,LeO (integer_Check.f k a0 a1) (integer_Check.f (k+1) a0 a1):=by
  intro a0 a1 k
  unfold integer_Check.f
  with_reducible repeat' first
      |exact natural_Check.mono _ _
      |exact LeO.refl _
      |exact LeO.none _
      |refine LeO.ite ?_ ?_
      |refine LeO.bind ?_ (fun _=>?_)
def exact_compareWords.l0:Nat→List Int→List Int→Int→Option (Int)
  |0,_,_,_=>none
  |k+1,x0,x1,x5=>if x5≥0 then(if 0≤x5 then(if x5<(x0.length:Int)then(if x5<(x1.length:Int)then(if(rd x0 x5)=(rd x1 x5)then(exact_compareWords.l0 k x0 x1 (wrap64 (x5-1)))else(if(rd x0 x5)<(rd x1 x5)then(some (-1))else(some 1)))else(none))else(none))else(none))else(some 0)
def exact_compareWords.f (k:Nat) (l0:List Int) (l1:List Int):Option (Int):=if(l0.length:Int)=(l1.length:Int)then(exact_compareWords.l0 k l0 l1 (wrap64 ((l0.length:Int)-1)))else(if(l0.length:Int)<(l1.length:Int)then(some (-1))else(some 1))
theorem exact_compareWords.U1 {g:Prop} (h:g:=by
  with_reducible repeat' first
  |exact ih0 _ _ _
  |exact LeO.refl _
  |exact LeO.none _
  |refine LeO.ite ?_ ?_
  |refine LeO.bind ?_ (fun _=>?_)):g:=h
theorem exact_compareWords.mono_l:∀k,(∀y0 y1 y2,LeO (exact_compareWords.l0 k y0 y1 y2) (exact_compareWords.l0 (k+1) y0 y1 y2))
  |0=>fun _ _ _ r h=>by simp [exact_compareWords.l0]at h
  | k+1=>by
    have ih0:=exact_compareWords.mono_l k
    · intro y0 y1 y2
      unfold exact_compareWords.l0
      exact exact_compareWords.U1
theorem exact_compareWords.mono:∀a0 a1 k,LeO (exact_compareWords.f k a0 a1) (exact_compareWords.f (k+1) a0 a1):=by
  intro a0 a1 k
  have ih0:=exact_compareWords.mono_l k
  unfold exact_compareWords.f
  exact exact_compareWords.U1
def bits_Len64.f (a0:Int):Option (Int):=if 0≤a0∧a0≤18446744073709551615 then some (Lib.bitLen a0.toNat:Int)else none
def bits_LeadingZeros64.f (a0:Int):Option (Int):=(bits_Len64.f a0).bind fun t113=>(some (wrap64 (64-t113)))
mutual
def bits_Div64.j2:Nat→Int→Int→Int→Int→Int→Int→Int→Int→Option (Int×Int)
  |0,_,_,_,_,_,_,_,_=>none
  |k+1,x2,x8,x9,x10,x11,x13,x14,x15=>if x9=0 then(none)else(bits_Div64.l1 k x2 x8 x9 x10 x14 x15 (IntKind.u64.wrap ((IntKind.u64.wrap ((IntKind.u64.wrap ((IntKind.u64.wrap (x11*4294967296))+x13))-(IntKind.u64.wrap (x15*x2))))-(IntKind.u64.wrap ((IntKind.u64.wrap (Int.tdiv (IntKind.u64.wrap ((IntKind.u64.wrap ((IntKind.u64.wrap (x11*4294967296))+x13))-(IntKind.u64.wrap (x15*x2)))) x9))*x9)))) (IntKind.u64.wrap ((IntKind.u64.wrap ((IntKind.u64.wrap (x11*4294967296))+x13))-(IntKind.u64.wrap (x15*x2)))) (IntKind.u64.wrap (Int.tdiv (IntKind.u64.wrap ((IntKind.u64.wrap ((IntKind.u64.wrap (x11*4294967296))+x13))-(IntKind.u64.wrap (x15*x2)))) x9)))
def bits_Div64.l1:Nat→Int→Int→Int→Int→Int→Int→Int→Int→Int→Option (Int×Int)
  |0,_,_,_,_,_,_,_,_,_=>none
  |k+1,x2,x8,x9,x10,x14,x15,x16,x17,x18=>if x18≥4294967296 then(bits_Div64.j4 k x2 x8 x9 x10 x14 x15 x16 x17 x18 true)else(bits_Div64.j4 k x2 x8 x9 x10 x14 x15 x16 x17 x18 (decide ((IntKind.u64.wrap (x18*x10))>(IntKind.u64.wrap ((IntKind.u64.wrap (4294967296*x16))+x14)))))
def bits_Div64.j4:Nat→Int→Int→Int→Int→Int→Int→Int→Int→Int→Bool→Option (Int×Int)
  |0,_,_,_,_,_,_,_,_,_,_=>none
  |k+1,x2,x8,x9,x10,x14,x15,x16,x17,x18,x113=>if x113=true then(if(IntKind.u64.wrap (x16+x9))≥4294967296 then(if 0≤x8 then(some (IntKind.u64.wrap ((IntKind.u64.wrap (x15*4294967296))+(IntKind.u64.wrap (x18-1))),shr .u64 (IntKind.u64.wrap ((IntKind.u64.wrap ((IntKind.u64.wrap (x17*4294967296))+x14))-(IntKind.u64.wrap ((IntKind.u64.wrap (x18-1))*x2)))) x8))else(none))else(bits_Div64.l1 k x2 x8 x9 x10 x14 x15 (IntKind.u64.wrap (x16+x9)) x17 (IntKind.u64.wrap (x18-1))))else(if 0≤x8 then(some (IntKind.u64.wrap ((IntKind.u64.wrap (x15*4294967296))+x18),shr .u64 (IntKind.u64.wrap ((IntKind.u64.wrap ((IntKind.u64.wrap (x17*4294967296))+x14))-(IntKind.u64.wrap (x18*x2)))) x8))else(none))
def bits_Div64.l0:Nat→Int→Int→Int→Int→Int→Int→Int→Int→Int→Option (Int×Int)
  |0,_,_,_,_,_,_,_,_,_=>none
  |k+1,x2,x8,x9,x10,x11,x13,x14,x15,x16=>if x15≥4294967296 then(bits_Div64.j1 k x2 x8 x9 x10 x11 x13 x14 x15 x16 true)else(bits_Div64.j1 k x2 x8 x9 x10 x11 x13 x14 x15 x16 (decide ((IntKind.u64.wrap (x15*x10))>(IntKind.u64.wrap ((IntKind.u64.wrap (4294967296*x16))+x13)))))
def bits_Div64.j1:Nat→Int→Int→Int→Int→Int→Int→Int→Int→Int→Bool→Option (Int×Int)
  |0,_,_,_,_,_,_,_,_,_,_=>none
  |k+1,x2,x8,x9,x10,x11,x13,x14,x15,x16,x78=>if x78=true then(if(IntKind.u64.wrap (x16+x9))≥4294967296 then(bits_Div64.j2 k x2 x8 x9 x10 x11 x13 x14 (IntKind.u64.wrap (x15-1)))else(bits_Div64.l0 k x2 x8 x9 x10 x11 x13 x14 (IntKind.u64.wrap (x15-1)) (IntKind.u64.wrap (x16+x9))))else(bits_Div64.j2 k x2 x8 x9 x10 x11 x13 x14 x15)
end
def bits_Div64.f (k:Nat) (a0:Int) (a1:Int) (a2:Int):Option (Int×Int):=if a2=0 then(none)else(if a2≤a0 then(none)else(if a0=0 then(some (IntKind.u64.wrap (Int.tdiv a1 a2),Int.tmod a1 a2))else((bits_LeadingZeros64.f a2).bind fun t114=>(if 0≤(IntKind.u64.wrap (t114))then(if 0≤(IntKind.u64.wrap (64-(IntKind.u64.wrap (t114))))then(if((shl .u64 a2 (IntKind.u64.wrap (t114)))/4294967296)=0 then(none)else(bits_Div64.l0 k (shl .u64 a2 (IntKind.u64.wrap (t114))) (IntKind.u64.wrap (t114)) ((shl .u64 a2 (IntKind.u64.wrap (t114)))/4294967296) (Go.bits .and .u64 (shl .u64 a2 (IntKind.u64.wrap (t114))) 4294967295) (Go.bits .or .u64 (shl .u64 a0 (IntKind.u64.wrap (t114))) (shr .u64 a1 (IntKind.u64.wrap (64-(IntKind.u64.wrap (t114)))))) ((shl .u64 a1 (IntKind.u64.wrap (t114)))/4294967296) (Go.bits .and .u64 (shl .u64 a1 (IntKind.u64.wrap (t114))) 4294967295) (IntKind.u64.wrap (Int.tdiv (Go.bits .or .u64 (shl .u64 a0 (IntKind.u64.wrap (t114))) (shr .u64 a1 (IntKind.u64.wrap (64-(IntKind.u64.wrap (t114)))))) ((shl .u64 a2 (IntKind.u64.wrap (t114)))/4294967296))) (IntKind.u64.wrap ((Go.bits .or .u64 (shl .u64 a0 (IntKind.u64.wrap (t114))) (shr .u64 a1 (IntKind.u64.wrap (64-(IntKind.u64.wrap (t114))))))-(IntKind.u64.wrap ((IntKind.u64.wrap (Int.tdiv (Go.bits .or .u64 (shl .u64 a0 (IntKind.u64.wrap (t114))) (shr .u64 a1 (IntKind.u64.wrap (64-(IntKind.u64.wrap (t114)))))) ((shl .u64 a2 (IntKind.u64.wrap (t114)))/4294967296)))*((shl .u64 a2 (IntKind.u64.wrap (t114)))/4294967296)))))))else(none))else(none)))))
theorem bits_Div64.U1 {g:Prop} (h:g:=by
  with_reducible repeat' first
  |exact ih0 _ _ _ _ _ _ _ _
  |exact ih1 _ _ _ _ _ _ _ _ _
  |exact ih2 _ _ _ _ _ _ _ _ _ _
  |exact ih3 _ _ _ _ _ _ _ _ _
  |exact ih4 _ _ _ _ _ _ _ _ _ _
  |exact LeO.refl _
  |exact LeO.none _
  |refine LeO.ite ?_ ?_
  |refine LeO.bind ?_ (fun _=>?_)):g:=h
theorem bits_Div64.mono_l:∀k,(∀y0 y1 y2 y3 y4 y5 y6 y7,LeO (bits_Div64.j2 k y0 y1 y2 y3 y4 y5 y6 y7) (bits_Div64.j2 (k+1) y0 y1 y2 y3 y4 y5 y6 y7))∧(∀y0 y1 y2 y3 y4 y5 y6 y7 y8,LeO (bits_Div64.l1 k y0 y1 y2 y3 y4 y5 y6 y7 y8) (bits_Div64.l1 (k+1) y0 y1 y2 y3 y4 y5 y6 y7 y8))∧(∀y0 y1 y2 y3 y4 y5 y6 y7 y8 y9,LeO (bits_Div64.j4 k y0 y1 y2 y3 y4 y5 y6 y7 y8 y9) (bits_Div64.j4 (k+1) y0 y1 y2 y3 y4 y5 y6 y7 y8 y9))∧(∀y0 y1 y2 y3 y4 y5 y6 y7 y8,LeO (bits_Div64.l0 k y0 y1 y2 y3 y4 y5 y6 y7 y8) (bits_Div64.l0 (k+1) y0 y1 y2 y3 y4 y5 y6 y7 y8))∧(∀y0 y1 y2 y3 y4 y5 y6 y7 y8 y9,LeO (bits_Div64.j1 k y0 y1 y2 y3 y4 y5 y6 y7 y8 y9) (bits_Div64.j1 (k+1) y0 y1 y2 y3 y4 y5 y6 y7 y8 y9))
  |0=>⟨fun _ _ _ _ _ _ _ _ r h=>by simp [bits_Div64.j2]at h,fun _ _ _ _ _ _ _ _ _ r h=>by simp [bits_Div64.l1]at h,fun _ _ _ _ _ _ _ _ _ _ r h=>by simp [bits_Div64.j4]at h,fun _ _ _ _ _ _ _ _ _ r h=>by simp [bits_Div64.l0]at h,fun _ _ _ _ _ _ _ _ _ _ r h=>by simp [bits_Div64.j1]at h⟩
  | k+1=>by
    obtain⟨ih0,ih1,ih2,ih3,ih4⟩:=bits_Div64.mono_l k
    refine⟨?_,?_,?_,?_,?_⟩
    · intro y0 y1 y2 y3 y4 y5 y6 y7
      unfold bits_Div64.j2
      exact bits_Div64.U1
    · intro y0 y1 y2 y3 y4 y5 y6 y7 y8
      unfold bits_Div64.l1
      exact bits_Div64.U1
    · intro y0 y1 y2 y3 y4 y5 y6 y7 y8 y9
      unfold bits_Div64.j4
      exact bits_Div64.U1
    · intro y0 y1 y2 y3 y4 y5 y6 y7 y8
      unfold bits_Div64.l0
      exact bits_Div64.U1
    · intro y0 y1 y2 y3 y4 y5 y6 y7 y8 y9
      unfold bits_Div64.j1
      exact bits_Div64.U1
theorem bits_Div64.mono:∀a0 a1 a2 k,LeO (bits_Div64.f k a0 a1 a2) (bits_Div64.f (k+1) a0 a1 a2):=by
  intro a0 a1 a2 k
  obtain⟨ih0,ih1,ih2,ih3,ih4⟩:=bits_Div64.mono_l k
  unfold bits_Div64.f
  exact bits_Div64.U1
def exact_trim.l0:Nat→List Int→Int→Option (List Int)
  |0,_,_=>none
  |k+1,x0,x3=>if x3>0 then(if 0≤(wrap64 (x3-1))then(if(wrap64 (x3-1))<(x0.length:Int)then(if(rd x0 (wrap64 (x3-1)))=0 then(exact_trim.l0 k x0 (wrap64 (x3-1)))else(if 0≤x3 then(if x3≤(x0.length:Int)then(some (x0.take (x3:Int).toNat))else(none))else(none)))else(none))else(none))else(if 0≤x3 then(if x3≤(x0.length:Int)then(some (x0.take (x3:Int).toNat))else(none))else(none))
def exact_trim.f (k:Nat) (l0:List Int):Option (List Int):=exact_trim.l0 k l0 (l0.length:Int)
theorem exact_trim.U1 {g:Prop} (h:g:=by
  with_reducible repeat' first
  |exact ih0 _ _
  |exact LeO.refl _
  |exact LeO.none _
  |refine LeO.ite ?_ ?_
  |refine LeO.bind ?_ (fun _=>?_)):g:=h
theorem exact_trim.mono_l:∀k,(∀y0 y1,LeO (exact_trim.l0 k y0 y1) (exact_trim.l0 (k+1) y0 y1))
  |0=>fun _ _ r h=>by simp [exact_trim.l0]at h
  | k+1=>by
    have ih0:=exact_trim.mono_l k
    · intro y0 y1
      unfold exact_trim.l0
      exact exact_trim.U1
theorem exact_trim.mono:∀a0 k,LeO (exact_trim.f k a0) (exact_trim.f (k+1) a0):=by
  intro a0 k
  have ih0:=exact_trim.mono_l k
  unfold exact_trim.f
  exact exact_trim.U1
def exact_shiftUp.l0:Nat→Int→List Int→List Int→Int→Int→Option (List Int)
  |0,_,_,_,_,_=>none
  |k+1,x1,x5,x12,x13,x14=>if x14<x13 then(if 0≤x14 then(if x14<(x12.length:Int)then(if x14<(x5.length:Int)then(if 0≤x1 then((some (x5.set (x14:Int).toNat (Go.bits .or .u64 (rd x5 x14) (shl .u64 (rd x12 x14) x1)):List Int)).bind fun y127=>(if x1>0 then(if 0≤(wrap64 (64-x1))then(if 0≤(wrap64 (x14+1))then(if(wrap64 (x14+1))<(x5.length:Int)then(exact_shiftUp.l0 k x1 (y127.set ((wrap64 (x14+1)):Int).toNat (shr .u64 (rd x12 x14) (wrap64 (64-x1)))) x12 x13 (wrap64 (x14+1)))else(none))else(none))else(none))else(exact_shiftUp.l0 k x1 y127 x12 x13 (wrap64 (x14+1)))))else(none))else(none))else(none))else(none))else(some x5)
def exact_shiftUp.f (k:Nat) (l0:List Int) (a1:Int):Option (List Int):=if 0≤(wrap64 ((l0.length:Int)+1))then(if(wrap64 ((l0.length:Int)+1):Int).toNat≤35184372088832 then(exact_shiftUp.l0 k a1 (List.replicate (wrap64 ((l0.length:Int)+1):Int).toNat 0) l0 (l0.length:Int) 0)else(none))else(none)
theorem exact_shiftUp.U1 {g:Prop} (h:g:=by
  with_reducible repeat' first
  |exact ih0 _ _ _ _ _
  |exact LeO.refl _
  |exact LeO.none _
  |refine LeO.ite ?_ ?_
  |refine LeO.bind ?_ (fun _=>?_)):g:=h
theorem exact_shiftUp.mono_l:∀k,(∀y0 y1 y2 y3 y4,LeO (exact_shiftUp.l0 k y0 y1 y2 y3 y4) (exact_shiftUp.l0 (k+1) y0 y1 y2 y3 y4))
  |0=>fun _ _ _ _ _ r h=>by simp [exact_shiftUp.l0]at h
  | k+1=>by
    have ih0:=exact_shiftUp.mono_l k
    · intro y0 y1 y2 y3 y4
      unfold exact_shiftUp.l0
      exact exact_shiftUp.U1
theorem exact_shiftUp.mono:∀a0 a1 k,LeO (exact_shiftUp.f k a0 a1) (exact_shiftUp.f (k+1) a0 a1):=by
  intro a0 a1 k
  have ih0:=exact_shiftUp.mono_l k
  unfold exact_shiftUp.f
  exact exact_shiftUp.U1
def bits_Add64.f (a0:Int) (a1:Int) (a2:Int):Option (Int×Int):=if 0≤a0∧0≤a1∧0≤a2∧a2≤1 then some ((a0+a1+a2)%18446744073709551616,(a0+a1+a2)/18446744073709551616)else none
def bits_Sub64.f (a0:Int) (a1:Int) (a2:Int):Option (Int×Int):=if 0≤a0∧0≤a1∧a1≤18446744073709551615∧0≤a2∧a2≤1 then some ((a0-a1-a2)%18446744073709551616,if a0<a1+a2 then 1 else 0)else none
def bits_Mul64.f (a0:Int) (a1:Int):Option (Int×Int):=some (IntKind.u64.wrap ((IntKind.u64.wrap ((IntKind.u64.wrap ((a0/4294967296)*(a1/4294967296)))+((IntKind.u64.wrap ((IntKind.u64.wrap ((a0/4294967296)*(Go.bits .and .u64 a1 4294967295)))+((IntKind.u64.wrap ((Go.bits .and .u64 a0 4294967295)*(Go.bits .and .u64 a1 4294967295)))/4294967296)))/4294967296)))+((IntKind.u64.wrap ((Go.bits .and .u64 (IntKind.u64.wrap ((IntKind.u64.wrap ((a0/4294967296)*(Go.bits .and .u64 a1 4294967295)))+((IntKind.u64.wrap ((Go.bits .and .u64 a0 4294967295)*(Go.bits .and .u64 a1 4294967295)))/4294967296))) 4294967295)+(IntKind.u64.wrap ((Go.bits .and .u64 a0 4294967295)*(a1/4294967296)))))/4294967296)),IntKind.u64.wrap (a0*a1))
mutual
def exact_step.j0:Nat→List Int→List Int→Int→Int→Int→Int→Option (Int×List Int)
  |0,_,_,_,_,_,_=>none
  |k+1,x0,x1,x5,x6,x7,x8=>exact_step.l0 k x0 x1 x5 x6 x7 x8
def exact_step.j2:Nat→List Int→List Int→Int→Int→Option (Int×List Int)
  |0,_,_,_,_=>none
  |k+1,x0,x1,x5,x6=>exact_step.l1 k x0 x1 x5 x6 0 0 x5 0
def exact_step.l1:Nat→List Int→List Int→Int→Int→Int→Int→Int→Int→Option (Int×List Int)
  |0,_,_,_,_,_,_,_,_=>none
  |k+1,x0,x1,x5,x6,x11,x12,x104,x105=>if x105<x104 then(if 0≤x105 then(if x105<(x1.length:Int)then((bits_Mul64.f x6 (rd x1 x105)).bind fun bt151=>((bits_Add64.f bt151.2 x12 0).bind fun bt153=>(if x105<(x0.length:Int)then((bits_Sub64.f (rd x0 x105) bt153.1 x11).bind fun bt156=>(exact_step.l1 k (x0.set (x105:Int).toNat bt156.1) x1 x5 x6 bt156.2 (IntKind.u64.wrap (bt151.1+bt153.2)) x104 (wrap64 (x105+1))))else(none))))else(none))else(none))else(if 0≤x5 then(if x5<(x0.length:Int)then((bits_Sub64.f (rd x0 x5) x12 x11).bind fun bt160=>((some (x0.set (x5:Int).toNat bt160.1:List Int)).bind fun y162=>(if bt160.2=0 then(some (x6,y162))else(exact_step.l2 k y162 x1 x5 x6 0 x5 0))))else(none))else(none))
def exact_step.l2:Nat→List Int→List Int→Int→Int→Int→Int→Int→Option (Int×List Int)
  |0,_,_,_,_,_,_,_=>none
  |k+1,x0,x1,x5,x6,x17,x156,x157=>if x157<x156 then(if 0≤x157 then(if x157<(x0.length:Int)then(if x157<(x1.length:Int)then((bits_Add64.f (rd x0 x157) (rd x1 x157) x17).bind fun bt165=>(exact_step.l2 k (x0.set (x157:Int).toNat bt165.1) x1 x5 x6 bt165.2 x156 (wrap64 (x157+1))))else(none))else(none))else(none))else(if 0≤x5 then(if x5<(x0.length:Int)then(some (IntKind.u64.wrap (x6-1),(x0.set (x5:Int).toNat (IntKind.u64.wrap ((rd x0 x5)+x17)))))else(none))else(none))
def exact_step.l0:Nat→List Int→List Int→Int→Int→Int→Int→Option (Int×List Int)
  |0,_,_,_,_,_,_=>none
  |k+1,x0,x1,x5,x6,x7,x8=>if x8=0 then(if 0≤(wrap64 (x5-2))then(if(wrap64 (x5-2))<(x1.length:Int)then((bits_Mul64.f x6 (rd x1 (wrap64 (x5-2)))).bind fun bt141=>(if bt141.1<x7 then(exact_step.j2 k x0 x1 x5 x6)else(if bt141.1=x7 then(if(wrap64 (x5-2))<(x0.length:Int)then(if bt141.2≤(rd x0 (wrap64 (x5-2)))then(exact_step.j2 k x0 x1 x5 x6)else(if 0≤(wrap64 (x5-1))then(if(wrap64 (x5-1))<(x1.length:Int)then((bits_Add64.f x7 (rd x1 (wrap64 (x5-1))) 0).bind fun bt145=>(exact_step.l0 k x0 x1 x5 (IntKind.u64.wrap (x6-1)) bt145.1 bt145.2))else(none))else(none)))else(none))else(if 0≤(wrap64 (x5-1))then(if(wrap64 (x5-1))<(x1.length:Int)then((bits_Add64.f x7 (rd x1 (wrap64 (x5-1))) 0).bind fun bt148=>(exact_step.l0 k x0 x1 x5 (IntKind.u64.wrap (x6-1)) bt148.1 bt148.2))else(none))else(none)))))else(none))else(none))else(exact_step.j2 k x0 x1 x5 x6)
end
def exact_step.f (k:Nat) (l0:List Int) (l1:List Int):Option (Int×List Int):=if 0≤(l1.length:Int)then(if(l1.length:Int)<(l0.length:Int)then(if 0≤(wrap64 ((l1.length:Int)-1))then(if(wrap64 ((l1.length:Int)-1))<(l1.length:Int)then(if(rd l0 (l1.length:Int))≥(rd l1 (wrap64 ((l1.length:Int)-1)))then(if(wrap64 ((l1.length:Int)-1))<(l0.length:Int)then((bits_Add64.f (rd l0 (wrap64 ((l1.length:Int)-1))) (rd l1 (wrap64 ((l1.length:Int)-1))) 0).bind fun bt133=>(exact_step.j0 k l0 l1 (l1.length:Int) 18446744073709551615 bt133.1 bt133.2))else(none))else(if(wrap64 ((l1.length:Int)-1))<(l0.length:Int)then((bits_Div64.f k (rd l0 (l1.length:Int)) (rd l0 (wrap64 ((l1.length:Int)-1))) (rd l1 (wrap64 ((l1.length:Int)-1)))).bind fun bt138=>(exact_step.j0 k l0 l1 (l1.length:Int) bt138.1 bt138.2 0))else(none)))else(none))else(none))else(none))else(none)
theorem exact_step.U1 {g:Prop} (h:g:=by
  with_reducible repeat' first
  |exact ih0 _ _ _ _ _ _
  |exact ih1 _ _ _ _
  |exact ih2 _ _ _ _ _ _ _ _
  |exact ih3 _ _ _ _ _ _ _
  |exact ih4 _ _ _ _ _ _
  |exact bits_Div64.mono _ _ _ _
  |exact LeO.refl _
  |exact LeO.none _
  |refine LeO.ite ?_ ?_
  |refine LeO.bind ?_ (fun _=>?_)):g:=h
theorem exact_step.mono_l:∀k,(∀y0 y1 y2 y3 y4 y5,LeO (exact_step.j0 k y0 y1 y2 y3 y4 y5) (exact_step.j0 (k+1) y0 y1 y2 y3 y4 y5))∧(∀y0 y1 y2 y3,LeO (exact_step.j2 k y0 y1 y2 y3) (exact_step.j2 (k+1) y0 y1 y2 y3))∧(∀y0 y1 y2 y3 y4 y5 y6 y7,LeO (exact_step.l1 k y0 y1 y2 y3 y4 y5 y6 y7) (exact_step.l1 (k+1) y0 y1 y2 y3 y4 y5 y6 y7))∧(∀y0 y1 y2 y3 y4 y5 y6,LeO (exact_step.l2 k y0 y1 y2 y3 y4 y5 y6) (exact_step.l2 (k+1) y0 y1 y2 y3 y4 y5 y6))∧(∀y0 y1 y2 y3 y4 y5,LeO (exact_step.l0 k y0 y1 y2 y3 y4 y5) (exact_step.l0 (k+1) y0 y1 y2 y3 y4 y5))
  |0=>⟨fun _ _ _ _ _ _ r h=>by simp [exact_step.j0]at h,fun _ _ _ _ r h=>by simp [exact_step.j2]at h,fun _ _ _ _ _ _ _ _ r h=>by simp [exact_step.l1]at h,fun _ _ _ _ _ _ _ r h=>by simp [exact_step.l2]at h,fun _ _ _ _ _ _ r h=>by simp [exact_step.l0]at h⟩
  | k+1=>by
    obtain⟨ih0,ih1,ih2,ih3,ih4⟩:=exact_step.mono_l k
    refine⟨?_,?_,?_,?_,?_⟩
    · intro y0 y1 y2 y3 y4 y5
      unfold exact_step.j0
      exact exact_step.U1
    · intro y0 y1 y2 y3
      unfold exact_step.j2
      exact exact_step.U1
    · intro y0 y1 y2 y3 y4 y5 y6 y7
      unfold exact_step.l1
      exact exact_step.U1
    · intro y0 y1 y2 y3 y4 y5 y6
      unfold exact_step.l2
      exact exact_step.U1
    · intro y0 y1 y2 y3 y4 y5
      unfold exact_step.l0
      exact exact_step.U1
theorem exact_step.mono:∀a0 a1 k,LeO (exact_step.f k a0 a1) (exact_step.f (k+1) a0 a1):=by
  intro a0 a1 k
  obtain⟨ih0,ih1,ih2,ih3,ih4⟩:=exact_step.mono_l k
  unfold exact_step.f
  exact exact_step.U1
def exact_stepAt.f (k:Nat) (l0:List Int) (l1:List Int) (a2:Int) (a3:Int):Option (Int×List Int):=(exact_step.f k ((l0.take a3.toNat).drop a2.toNat) l1).bind fun bt=>(some (bt.1,l0.take a2.toNat++bt.2++l0.drop a3.toNat))
theorem exact_stepAt.mono:∀a0 a1 a2 a3 k,LeO (exact_stepAt.f k a0 a1 a2 a3) (exact_stepAt.f (k+1) a0 a1 a2 a3):=fun a0 a1 a2 a3 k=>LeO.bind (exact_step.mono _ _ _) (fun _=>LeO.refl _)
mutual
def exact_divide.l0:Nat→List Int→List Int→List Int→Int→Int→Option (List Int×List Int)
  |0,_,_,_,_,_=>none
  |k+1,x0,x1,x6,x7,x8=>if x8≥0 then(if 0≤x8 then(if x8<(x0.length:Int)then(if 0<(x1.length:Int)then((bits_Div64.f k x7 (rd x0 x8) (rd x1 0)).bind fun bt176=>(if x8<(x6.length:Int)then(exact_divide.l0 k x0 x1 (x6.set (x8:Int).toNat bt176.1) bt176.2 (wrap64 (x8-1)))else(none)))else(none))else(none))else(none))else((exact_trim.f k x6).bind fun t179=>((exact_trim.f k (([x7]:List Int))).bind fun t185=>(some (t179,t185))))
def exact_divide.l1:Nat→Int→List Int→List Int→Int→List Int→Int→Option (List Int×List Int)
  |0,_,_,_,_,_,_=>none
  |k+1,x9,x10,x11,x12,x13,x14=>if x14≥0 then(if 0≤x14 then(if x14≤(wrap64 ((wrap64 (x14+x12))+1))then(if(wrap64 ((wrap64 (x14+x12))+1))≤(x11.length:Int)then((exact_stepAt.f k x11 x10 x14 (wrap64 ((wrap64 (x14+x12))+1))).bind fun bt206=>(if x14<(x13.length:Int)then(exact_divide.l1 k x9 x10 bt206.2 x12 (x13.set (x14:Int).toNat bt206.1) (wrap64 (x14-1)))else(none)))else(none))else(none))else(none))else(exact_divide.l2 k x9 x11 x12 x13 x12 0)
def exact_divide.l2:Nat→Int→List Int→Int→List Int→Int→Int→Option (List Int×List Int)
  |0,_,_,_,_,_,_=>none
  |k+1,x9,x11,x12,x13,x96,x97=>if x97<x96 then(if 0≤x97 then(if x97<(x11.length:Int)then(if 0≤x9 then((some (x11.set (x97:Int).toNat (shr .u64 (rd x11 x97) x9):List Int)).bind fun y210=>(if x9>0 then(if(wrap64 (x97+1))<(x11.length:Int)then(if 0≤(wrap64 (x97+1))then(if 0≤(wrap64 (64-x9))then(exact_divide.l2 k x9 (y210.set (x97:Int).toNat (Go.bits .or .u64 (rd y210 x97) (shl .u64 (rd y210 (wrap64 (x97+1))) (wrap64 (64-x9))))) x12 x13 x96 (wrap64 (x97+1)))else(none))else(none))else(exact_divide.l2 k x9 y210 x12 x13 x96 (wrap64 (x97+1))))else(exact_divide.l2 k x9 y210 x12 x13 x96 (wrap64 (x97+1)))))else(none))else(none))else(none))else((exact_trim.f k x13).bind fun t214=>(if 0≤x12 then(if x12≤(x11.length:Int)then((exact_trim.f k (x11.take (x12:Int).toNat)).bind fun t220=>(some (t214,t220)))else(none))else(none)))
end
def exact_divide.f (k:Nat) (l0:List Int) (l1:List Int):Option (List Int×List Int):=(exact_compareWords.f k l0 l1).bind fun t170=>(if t170<0 then(some (([]:List Int),l0))else(if(l1.length:Int)=1 then(if 0≤(l0.length:Int)then(if((l0.length:Int):Int).toNat≤35184372088832 then(exact_divide.l0 k l0 l1 (List.replicate ((l0.length:Int):Int).toNat 0) 0 (wrap64 ((l0.length:Int)-1)))else(none))else(none))else(if 0≤(wrap64 ((l1.length:Int)-1))then(if(wrap64 ((l1.length:Int)-1))<(l1.length:Int)then((bits_LeadingZeros64.f (rd l1 (wrap64 ((l1.length:Int)-1)))).bind fun t189=>((exact_shiftUp.f k l1 t189).bind fun t190=>((exact_trim.f k t190).bind fun t193=>((exact_shiftUp.f k l0 t189).bind fun t196=>(if 0≤(wrap64 ((wrap64 ((l0.length:Int)-(t193.length:Int)))+1))then(if(wrap64 ((wrap64 ((l0.length:Int)-(t193.length:Int)))+1):Int).toNat≤35184372088832 then(exact_divide.l1 k t189 t193 t196 (t193.length:Int) (List.replicate (wrap64 ((wrap64 ((l0.length:Int)-(t193.length:Int)))+1):Int).toNat 0) (wrap64 ((l0.length:Int)-(t193.length:Int))))else(none))else(none))))))else(none))else(none))))
theorem exact_divide.U1 {g:Prop} (h:g:=by
  with_reducible repeat' first
  |exact ih0 _ _ _ _ _
  |exact ih1 _ _ _ _ _ _
  |exact ih2 _ _ _ _ _ _
  |exact bits_Div64.mono _ _ _ _
  |exact exact_compareWords.mono _ _ _
  |exact exact_shiftUp.mono _ _ _
  |exact exact_step.mono _ _ _
  |exact exact_stepAt.mono _ _ _ _ _
  |exact exact_trim.mono _ _
  |exact LeO.refl _
  |exact LeO.none _
  |refine LeO.ite ?_ ?_
  |refine LeO.bind ?_ (fun _=>?_)):g:=h
theorem exact_divide.mono_l:∀k,(∀y0 y1 y2 y3 y4,LeO (exact_divide.l0 k y0 y1 y2 y3 y4) (exact_divide.l0 (k+1) y0 y1 y2 y3 y4))∧(∀y0 y1 y2 y3 y4 y5,LeO (exact_divide.l1 k y0 y1 y2 y3 y4 y5) (exact_divide.l1 (k+1) y0 y1 y2 y3 y4 y5))∧(∀y0 y1 y2 y3 y4 y5,LeO (exact_divide.l2 k y0 y1 y2 y3 y4 y5) (exact_divide.l2 (k+1) y0 y1 y2 y3 y4 y5))
  |0=>⟨fun _ _ _ _ _ r h=>by simp [exact_divide.l0]at h,fun _ _ _ _ _ _ r h=>by simp [exact_divide.l1]at h,fun _ _ _ _ _ _ r h=>by simp [exact_divide.l2]at h⟩
  | k+1=>by
    obtain⟨ih0,ih1,ih2⟩:=exact_divide.mono_l k
    refine⟨?_,?_,?_⟩
    · intro y0 y1 y2 y3 y4
      unfold exact_divide.l0
      exact exact_divide.U1
    · intro y0 y1 y2 y3 y4 y5
      unfold exact_divide.l1
      exact exact_divide.U1
    · intro y0 y1 y2 y3 y4 y5
      unfold exact_divide.l2
      exact exact_divide.U1
theorem exact_divide.mono:∀a0 a1 k,LeO (exact_divide.f k a0 a1) (exact_divide.f (k+1) a0 a1):=by
  intro a0 a1 k
  obtain⟨ih0,ih1,ih2⟩:=exact_divide.mono_l k
  unfold exact_divide.f
  exact exact_divide.U1
def exact_words.l0:Nat→ByteArray→List Int→Int→Int→Option (List Int)
  |0,_,_,_,_=>none
  |k+1,x0,x3,x12,x13=>if x13<x12 then(if 0≤(wrap64 (Int.tdiv (wrap64 ((wrap64 ((x0.size:Int)-1))-x13)) 8))then(if(wrap64 (Int.tdiv (wrap64 ((wrap64 ((x0.size:Int)-1))-x13)) 8))<(x3.length:Int)then(if 0≤x13 then(if x13<(x0.size:Int)then(if 0≤(wrap64 (8*(Int.tmod (wrap64 ((wrap64 ((x0.size:Int)-1))-x13)) 8)))then(exact_words.l0 k x0 (x3.set ((wrap64 (Int.tdiv (wrap64 ((wrap64 ((x0.size:Int)-1))-x13)) 8)):Int).toNat (Go.bits .or .u64 (rd x3 (wrap64 (Int.tdiv (wrap64 ((wrap64 ((x0.size:Int)-1))-x13)) 8))) (shl .u64 (IntKind.u64.wrap (bt x0 x13)) (wrap64 (8*(Int.tmod (wrap64 ((wrap64 ((x0.size:Int)-1))-x13)) 8)))))) x12 (wrap64 (x13+1)))else(none))else(none))else(none))else(none))else(none))else((exact_trim.f k x3).bind fun t228=>(some t228))
def exact_words.f (k:Nat) (a0:ByteArray):Option (List Int):=if 0≤(wrap64 (Int.tdiv (wrap64 ((a0.size:Int)+7)) 8))then(if(wrap64 (Int.tdiv (wrap64 ((a0.size:Int)+7)) 8):Int).toNat≤35184372088832 then(exact_words.l0 k a0 (List.replicate (wrap64 (Int.tdiv (wrap64 ((a0.size:Int)+7)) 8):Int).toNat 0) (a0.size:Int) 0)else(none))else(none)
theorem exact_words.U1 {g:Prop} (h:g:=by
  with_reducible repeat' first
  |exact ih0 _ _ _ _
  |exact exact_trim.mono _ _
  |exact LeO.refl _
  |exact LeO.none _
  |refine LeO.ite ?_ ?_
  |refine LeO.bind ?_ (fun _=>?_)):g:=h
theorem exact_words.mono_l:∀k,(∀y0 y1 y2 y3,LeO (exact_words.l0 k y0 y1 y2 y3) (exact_words.l0 (k+1) y0 y1 y2 y3))
  |0=>fun _ _ _ _ r h=>by simp [exact_words.l0]at h
  | k+1=>by
    have ih0:=exact_words.mono_l k
    · intro y0 y1 y2 y3
      unfold exact_words.l0
      exact exact_words.U1
theorem exact_words.mono:∀a0 k,LeO (exact_words.f k a0) (exact_words.f (k+1) a0):=by
  intro a0 k
  have ih0:=exact_words.mono_l k
  unfold exact_words.f
  exact exact_words.U1
mutual
def exact_pack.l0:Nat→List Int→List Int→Int→Int→Option (ByteArray)
  |0,_,_,_,_=>none
  |k+1,x3,x17,x18,x19=>if x19<x18 then(if 0≤x19 then(if x19<(x17.length:Int)then(exact_pack.l1 k x3 x19 (rd x17 x19) x17 x18 x19 0)else(none))else(none))else(exact_pack.l2 k x3 0)
def exact_pack.l1:Nat→List Int→Int→Int→List Int→Int→Int→Int→Option (ByteArray)
  |0,_,_,_,_,_,_,_=>none
  |k+1,x3,x4,x5,x17,x18,x19,x24=>if x24<8 then(if 0≤(wrap64 (8*x24))then(if 0≤(wrap64 ((wrap64 ((wrap64 ((x3.length:Int)-1))-(wrap64 (8*x4))))-x24))then(if(wrap64 ((wrap64 ((wrap64 ((x3.length:Int)-1))-(wrap64 (8*x4))))-x24))<(x3.length:Int)then(exact_pack.l1 k (x3.set ((wrap64 ((wrap64 ((wrap64 ((x3.length:Int)-1))-(wrap64 (8*x4))))-x24)):Int).toNat ((shr .u64 x5 (wrap64 (8*x24)))%256)) x4 x5 x17 x18 x19 (wrap64 (x24+1)))else(none))else(none))else(none))else(exact_pack.l0 k x3 x17 x18 (wrap64 (x19+1)))
def exact_pack.l2:Nat→List Int→Int→Option (ByteArray)
  |0,_,_=>none
  |k+1,x3,x7=>if 0≤x7 then(if x7<(x3.length:Int)then(if(rd x3 x7)=0 then(exact_pack.l2 k x3 (wrap64 (x7+1)))else(if x7≤(x3.length:Int)then(some (strOfNums (x3.drop (x7:Int).toNat)))else(none)))else(none))else(none)
end
def exact_pack.f (k:Nat) (l0:List Int):Option (ByteArray):=(exact_trim.f k l0).bind fun t231=>(if(t231.length:Int)=0 then(some (⟨#[]⟩:ByteArray))else(if 0≤(wrap64 (8*(t231.length:Int)))then(if(wrap64 (8*(t231.length:Int)):Int).toNat≤281474976710656 then(exact_pack.l0 k (List.replicate (wrap64 (8*(t231.length:Int)):Int).toNat 0) t231 (t231.length:Int) 0)else(none))else(none)))
theorem exact_pack.U1 {g:Prop} (h:g:=by
  with_reducible repeat' first
  |exact ih0 _ _ _ _
  |exact ih1 _ _ _ _ _ _ _
  |exact ih2 _ _
  |exact exact_trim.mono _ _
  |exact LeO.refl _
  |exact LeO.none _
  |refine LeO.ite ?_ ?_
  |refine LeO.bind ?_ (fun _=>?_)):g:=h
theorem exact_pack.mono_l:∀k,(∀y0 y1 y2 y3,LeO (exact_pack.l0 k y0 y1 y2 y3) (exact_pack.l0 (k+1) y0 y1 y2 y3))∧(∀y0 y1 y2 y3 y4 y5 y6,LeO (exact_pack.l1 k y0 y1 y2 y3 y4 y5 y6) (exact_pack.l1 (k+1) y0 y1 y2 y3 y4 y5 y6))∧(∀y0 y1,LeO (exact_pack.l2 k y0 y1) (exact_pack.l2 (k+1) y0 y1))
  |0=>⟨fun _ _ _ _ r h=>by simp [exact_pack.l0]at h,fun _ _ _ _ _ _ _ r h=>by simp [exact_pack.l1]at h,fun _ _ r h=>by simp [exact_pack.l2]at h⟩
  | k+1=>by
    obtain⟨ih0,ih1,ih2⟩:=exact_pack.mono_l k
    refine⟨?_,?_,?_⟩
    · intro y0 y1 y2 y3
      unfold exact_pack.l0
      exact exact_pack.U1
    · intro y0 y1 y2 y3 y4 y5 y6
      unfold exact_pack.l1
      exact exact_pack.U1
    · intro y0 y1
      unfold exact_pack.l2
      exact exact_pack.U1
theorem exact_pack.mono:∀a0 k,LeO (exact_pack.f k a0) (exact_pack.f (k+1) a0):=by
  intro a0 k
  obtain⟨ih0,ih1,ih2⟩:=exact_pack.mono_l k
  unfold exact_pack.f
  exact exact_pack.U1
def exact_NatDivMod.f (k:Nat) (a0:ByteArray) (a1:ByteArray):Option (ByteArray×ByteArray):=(exact_words.f k a0).bind fun t244=>((exact_words.f k a1).bind fun t247=>((exact_divide.f k t244 t247).bind fun bt250=>((exact_pack.f k bt250.1).bind fun t256=>((exact_pack.f k bt250.2).bind fun t257=>(some (t256,t257))))))
theorem exact_NatDivMod.mono:∀a0 a1 k,LeO (exact_NatDivMod.f k a0 a1) (exact_NatDivMod.f (k+1) a0 a1):=by
  intro a0 a1 k
  unfold exact_NatDivMod.f
  with_reducible repeat' first
      |exact exact_divide.mono _ _ _
      |exact exact_pack.mono _ _
      |exact exact_words.mono _ _
      |exact LeO.refl _
      |exact LeO.none _
      |refine LeO.ite ?_ ?_
      |refine LeO.bind ?_ (fun _=>?_)
mutual
def exact_NatAdd.j0:Nat→List Int→List Int→Option (ByteArray)
  |0,_,_=>none
  |k+1,x5,x6=>if 0≤(wrap64 ((x5.length:Int)+1))then(if(wrap64 ((x5.length:Int)+1):Int).toNat≤35184372088832 then(exact_NatAdd.l0 k x5 x6 (List.replicate (wrap64 ((x5.length:Int)+1):Int).toNat 0) 0 (x5.length:Int) 0)else(none))else(none)
def exact_NatAdd.l0:Nat→List Int→List Int→List Int→Int→Int→Int→Option (ByteArray)
  |0,_,_,_,_,_,_=>none
  |k+1,x5,x6,x7,x8,x27,x28=>if x28<x27 then(if x28<(x6.length:Int)then(if 0≤x28 then(if x28<(x5.length:Int)then((bits_Add64.f (rd x5 x28) (rd x6 x28) x8).bind fun bt269=>(if x28<(x7.length:Int)then(exact_NatAdd.l0 k x5 x6 (x7.set (x28:Int).toNat bt269.1) bt269.2 x27 (wrap64 (x28+1)))else(none)))else(none))else(none))else(if 0≤x28 then(if x28<(x5.length:Int)then((bits_Add64.f (rd x5 x28) 0 x8).bind fun bt273=>(if x28<(x7.length:Int)then(exact_NatAdd.l0 k x5 x6 (x7.set (x28:Int).toNat bt273.1) bt273.2 x27 (wrap64 (x28+1)))else(none)))else(none))else(none)))else(if 0≤(x5.length:Int)then(if(x5.length:Int)<(x7.length:Int)then((exact_pack.f k (x7.set ((x5.length:Int):Int).toNat x8)).bind fun t277=>(some t277))else(none))else(none))
end
def exact_NatAdd.f (k:Nat) (a0:ByteArray) (a1:ByteArray):Option (ByteArray):=(exact_words.f k a0).bind fun t258=>((exact_words.f k a1).bind fun t261=>(if(t258.length:Int)<(t261.length:Int)then(exact_NatAdd.j0 k t261 t258)else(exact_NatAdd.j0 k t258 t261)))
theorem exact_NatAdd.U1 {g:Prop} (h:g:=by
  with_reducible repeat' first
  |exact ih0 _ _
  |exact ih1 _ _ _ _ _ _
  |exact exact_pack.mono _ _
  |exact exact_words.mono _ _
  |exact LeO.refl _
  |exact LeO.none _
  |refine LeO.ite ?_ ?_
  |refine LeO.bind ?_ (fun _=>?_)):g:=h
theorem exact_NatAdd.mono_l:∀k,(∀y0 y1,LeO (exact_NatAdd.j0 k y0 y1) (exact_NatAdd.j0 (k+1) y0 y1))∧(∀y0 y1 y2 y3 y4 y5,LeO (exact_NatAdd.l0 k y0 y1 y2 y3 y4 y5) (exact_NatAdd.l0 (k+1) y0 y1 y2 y3 y4 y5))
  |0=>⟨fun _ _ r h=>by simp [exact_NatAdd.j0]at h,fun _ _ _ _ _ _ r h=>by simp [exact_NatAdd.l0]at h⟩
  | k+1=>by
    obtain⟨ih0,ih1⟩:=exact_NatAdd.mono_l k
    refine⟨?_,?_⟩
    · intro y0 y1
      unfold exact_NatAdd.j0
      exact exact_NatAdd.U1
    · intro y0 y1 y2 y3 y4 y5
      unfold exact_NatAdd.l0
      exact exact_NatAdd.U1
theorem exact_NatAdd.mono:∀a0 a1 k,LeO (exact_NatAdd.f k a0 a1) (exact_NatAdd.f (k+1) a0 a1):=by
  intro a0 a1 k
  obtain⟨ih0,ih1⟩:=exact_NatAdd.mono_l k
  unfold exact_NatAdd.f
  exact exact_NatAdd.U1
def exact_NatOf.f (k:Nat) (a0:Int):Option (ByteArray):=(exact_pack.f k (([a0]:List Int))).bind fun t281=>(some t281)
theorem exact_NatOf.mono:∀a0 k,LeO (exact_NatOf.f k a0) (exact_NatOf.f (k+1) a0):=by
  intro a0 k
  unfold exact_NatOf.f
  with_reducible repeat' first
      |exact exact_pack.mono _ _
      |exact LeO.refl _
      |exact LeO.none _
      |refine LeO.ite ?_ ?_
      |refine LeO.bind ?_ (fun _=>?_)
def exact_NatSub.l0:Nat→List Int→List Int→Int→Int→Int→Option (ByteArray)
  |0,_,_,_,_,_=>none
  |k+1,x5,x6,x7,x15,x16=>if x16<x15 then(if x16<(x6.length:Int)then(if 0≤x16 then(if x16<(x5.length:Int)then((bits_Sub64.f (rd x5 x16) (rd x6 x16) x7).bind fun bt290=>(exact_NatSub.l0 k (x5.set (x16:Int).toNat bt290.1) x6 bt290.2 x15 (wrap64 (x16+1))))else(none))else(none))else(if 0≤x16 then(if x16<(x5.length:Int)then((bits_Sub64.f (rd x5 x16) 0 x7).bind fun bt294=>(exact_NatSub.l0 k (x5.set (x16:Int).toNat bt294.1) x6 bt294.2 x15 (wrap64 (x16+1))))else(none))else(none)))else((exact_pack.f k x5).bind fun t297=>(some t297))
def exact_NatSub.f (k:Nat) (a0:ByteArray) (a1:ByteArray):Option (ByteArray):=(exact_words.f k a0).bind fun t282=>((exact_words.f k a1).bind fun t285=>(exact_NatSub.l0 k t282 t285 0 (t282.length:Int) 0))
theorem exact_NatSub.U1 {g:Prop} (h:g:=by
  with_reducible repeat' first
  |exact ih0 _ _ _ _ _
  |exact exact_pack.mono _ _
  |exact exact_words.mono _ _
  |exact LeO.refl _
  |exact LeO.none _
  |refine LeO.ite ?_ ?_
  |refine LeO.bind ?_ (fun _=>?_)):g:=h
theorem exact_NatSub.mono_l:∀k,(∀y0 y1 y2 y3 y4,LeO (exact_NatSub.l0 k y0 y1 y2 y3 y4) (exact_NatSub.l0 (k+1) y0 y1 y2 y3 y4))
  |0=>fun _ _ _ _ _ r h=>by simp [exact_NatSub.l0]at h
  | k+1=>by
    have ih0:=exact_NatSub.mono_l k
    · intro y0 y1 y2 y3 y4
      unfold exact_NatSub.l0
      exact exact_NatSub.U1
theorem exact_NatSub.mono:∀a0 a1 k,LeO (exact_NatSub.f k a0 a1) (exact_NatSub.f (k+1) a0 a1):=by
  intro a0 a1 k
  have ih0:=exact_NatSub.mono_l k
  unfold exact_NatSub.f
  exact exact_NatSub.U1
def exact_IntMake.f (a0:Bool) (a1:ByteArray):Option (Bool×ByteArray):=if a0=true then(some ((!a1.toList.isEmpty),a1))else(some (false,a1))
def exact_IntDivMod.j0:Nat→ByteArray→ByteArray→Bool→Bool→ByteArray→Bool→ByteArray→Option (Bool×ByteArray×Bool×ByteArray)
  |0,_,_,_,_,_,_,_=>none
  |k+1,x6,x7,x21,x300000,x300001,x301000,x301001=>if x21=true then((exact_NatOf.f k 1).bind fun t305=>((exact_NatAdd.f k x6 t305).bind fun t306=>((exact_NatSub.f k x301001 x7).bind fun t307=>((exact_IntMake.f (x300000 !=x301000) t306).bind fun bt308=>(some (bt308.1,bt308.2,false,t307))))))else((exact_IntMake.f (x300000 !=x301000) x6).bind fun bt310=>(some (bt310.1,bt310.2,false,x7)))
def exact_IntDivMod.f (k:Nat) (a0_0:Bool) (a0_1:ByteArray) (a1_0:Bool) (a1_1:ByteArray):Option (Bool×ByteArray×Bool×ByteArray):=(exact_NatDivMod.f k a0_1 a1_1).bind fun bt303=>(if a0_0=true then(exact_IntDivMod.j0 k bt303.1 bt303.2 (!bt303.2.toList.isEmpty) a0_0 a0_1 a1_0 a1_1)else(exact_IntDivMod.j0 k bt303.1 bt303.2 false a0_0 a0_1 a1_0 a1_1))
theorem exact_IntDivMod.U1 {g:Prop} (h:g:=by
  with_reducible repeat' first
  |exact ih0 _ _ _ _ _ _ _
  |exact exact_NatAdd.mono _ _ _
  |exact exact_NatDivMod.mono _ _ _
  |exact exact_NatOf.mono _ _
  |exact exact_NatSub.mono _ _ _
  |exact LeO.refl _
  |exact LeO.none _
  |refine LeO.ite ?_ ?_
  |refine LeO.bind ?_ (fun _=>?_)):g:=h
theorem exact_IntDivMod.mono_l:∀k,(∀y0 y1 y2 y3 y4 y5 y6,LeO (exact_IntDivMod.j0 k y0 y1 y2 y3 y4 y5 y6) (exact_IntDivMod.j0 (k+1) y0 y1 y2 y3 y4 y5 y6))
  |0=>fun _ _ _ _ _ _ _ r h=>by simp [exact_IntDivMod.j0]at h
  | k+1=>by
    have ih0:=exact_IntDivMod.mono_l k
    · intro y0 y1 y2 y3 y4 y5 y6
      unfold exact_IntDivMod.j0
      exact exact_IntDivMod.U1
theorem exact_IntDivMod.mono:∀a0 a1 a2 a3 k,LeO (exact_IntDivMod.f k a0 a1 a2 a3) (exact_IntDivMod.f (k+1) a0 a1 a2 a3):=by
  intro a0 a1 a2 a3 k
  have ih0:=exact_IntDivMod.mono_l k
  unfold exact_IntDivMod.f
  exact exact_IntDivMod.U1
def exact_NatGcd.l0:Nat→List Int→List Int→Option (ByteArray)
  |0,_,_=>none
  |k+1,x5,x6=>if(x6.length:Int)>0 then((exact_divide.f k x5 x6).bind fun bt318=>(exact_NatGcd.l0 k x6 bt318.2))else((exact_pack.f k x5).bind fun t324=>(some t324))
def exact_NatGcd.f (k:Nat) (a0:ByteArray) (a1:ByteArray):Option (ByteArray):=(exact_words.f k a0).bind fun t312=>((exact_words.f k a1).bind fun t315=>(exact_NatGcd.l0 k t312 t315))
theorem exact_NatGcd.U1 {g:Prop} (h:g:=by
  with_reducible repeat' first
  |exact ih0 _ _
  |exact exact_divide.mono _ _ _
  |exact exact_pack.mono _ _
  |exact exact_words.mono _ _
  |exact LeO.refl _
  |exact LeO.none _
  |refine LeO.ite ?_ ?_
  |refine LeO.bind ?_ (fun _=>?_)):g:=h
theorem exact_NatGcd.mono_l:∀k,(∀y0 y1,LeO (exact_NatGcd.l0 k y0 y1) (exact_NatGcd.l0 (k+1) y0 y1))
  |0=>fun _ _ r h=>by simp [exact_NatGcd.l0]at h
  | k+1=>by
    have ih0:=exact_NatGcd.mono_l k
    · intro y0 y1
      unfold exact_NatGcd.l0
      exact exact_NatGcd.U1
theorem exact_NatGcd.mono:∀a0 a1 k,LeO (exact_NatGcd.f k a0 a1) (exact_NatGcd.f (k+1) a0 a1):=by
  intro a0 a1 k
  have ih0:=exact_NatGcd.mono_l k
  unfold exact_NatGcd.f
  exact exact_NatGcd.U1
def exact_IntOf.f (k:Nat) (a0:Int):Option (Bool×ByteArray):=if a0<0 then((exact_NatOf.f k (IntKind.u64.wrap (-(IntKind.u64.wrap (a0))))).bind fun t330=>(some (true,t330)))else((exact_NatOf.f k (IntKind.u64.wrap (a0))).bind fun t331=>(some (false,t331)))
theorem exact_IntOf.mono:∀a0 k,LeO (exact_IntOf.f k a0) (exact_IntOf.f (k+1) a0):=by
  intro a0 k
  unfold exact_IntOf.f
  with_reducible repeat' first
      |exact exact_NatOf.mono _ _
      |exact LeO.refl _
      |exact LeO.none _
      |refine LeO.ite ?_ ?_
      |refine LeO.bind ?_ (fun _=>?_)
mutual
def galoisref01_pack.l0:Nat→List Int→List Int→Int→Option (ByteArray)
  |0,_,_,_=>none
  |k+1,x0,x3,x4=>if x4≥0 then(galoisref01_pack.l1 k x0 x3 x4 24)else(some (strOfNums x3))
def galoisref01_pack.l1:Nat→List Int→List Int→Int→Int→Option (ByteArray)
  |0,_,_,_,_=>none
  |k+1,x0,x3,x4,x5=>if x5≥0 then(if 0≤x4 then(if x4<(x0.length:Int)then(if 0≤x5 then(if(x3.length:Int)>0 then(if x3.length<140737488355328 then(galoisref01_pack.l1 k x0 (x3++[(shr .u64 (rd x0 x4) x5)%256]) x4 (wrap64 (x5-8)))else(none))else(if((shr .u64 (rd x0 x4) x5)%256)>0 then(if x3.length<140737488355328 then(galoisref01_pack.l1 k x0 (x3++[(shr .u64 (rd x0 x4) x5)%256]) x4 (wrap64 (x5-8)))else(none))else(galoisref01_pack.l1 k x0 x3 x4 (wrap64 (x5-8)))))else(none))else(none))else(none))else(galoisref01_pack.l0 k x0 x3 (wrap64 (x4-1)))
end
def galoisref01_pack.f (k:Nat) (l0:List Int):Option (ByteArray):=galoisref01_pack.l0 k l0 ([]:List Int) (wrap64 ((l0.length:Int)-1))
theorem galoisref01_pack.U1 {g:Prop} (h:g:=by
  with_reducible repeat' first
  |exact ih0 _ _ _
  |exact ih1 _ _ _ _
  |exact LeO.refl _
  |exact LeO.none _
  |refine LeO.ite ?_ ?_
  |refine LeO.bind ?_ (fun _=>?_)):g:=h
theorem galoisref01_pack.mono_l:∀k,(∀y0 y1 y2,LeO (galoisref01_pack.l0 k y0 y1 y2) (galoisref01_pack.l0 (k+1) y0 y1 y2))∧(∀y0 y1 y2 y3,LeO (galoisref01_pack.l1 k y0 y1 y2 y3) (galoisref01_pack.l1 (k+1) y0 y1 y2 y3))
  |0=>⟨fun _ _ _ r h=>by simp [galoisref01_pack.l0]at h,fun _ _ _ _ r h=>by simp [galoisref01_pack.l1]at h⟩
  | k+1=>by
    obtain⟨ih0,ih1⟩:=galoisref01_pack.mono_l k
    refine⟨?_,?_⟩
    · intro y0 y1 y2
      unfold galoisref01_pack.l0
      exact galoisref01_pack.U1
    · intro y0 y1 y2 y3
      unfold galoisref01_pack.l1
      exact galoisref01_pack.U1
theorem galoisref01_pack.mono:∀a0 k,LeO (galoisref01_pack.f k a0) (galoisref01_pack.f (k+1) a0):=by
  intro a0 k
  obtain⟨ih0,ih1⟩:=galoisref01_pack.mono_l k
  unfold galoisref01_pack.f
  exact galoisref01_pack.U1
def galoisref01_Of.f (k:Nat) (a0:Int):Option (ByteArray):=(galoisref01_pack.f k (([Go.bits .and .u64 a0 4294967295,a0/4294967296]:List Int))).bind fun t345=>(some t345)
theorem galoisref01_Of.mono:∀a0 k,LeO (galoisref01_Of.f k a0) (galoisref01_Of.f (k+1) a0):=by
  intro a0 k
  unfold galoisref01_Of.f
  with_reducible repeat' first
      |exact galoisref01_pack.mono _ _
      |exact LeO.refl _
      |exact LeO.none _
      |refine LeO.ite ?_ ?_
      |refine LeO.bind ?_ (fun _=>?_)
def galoisref02_FromInt.f (k:Nat) (a0:Int):Option (Bool×ByteArray):=if a0<0 then((galoisref01_Of.f k (IntKind.u64.wrap ((IntKind.u64.wrap (wrap64 (-(wrap64 (a0+1)))))+1))).bind fun t347=>(some (true,t347)))else((galoisref01_Of.f k (IntKind.u64.wrap (a0))).bind fun t348=>(some (false,t348)))
theorem galoisref02_FromInt.mono:∀a0 k,LeO (galoisref02_FromInt.f k a0) (galoisref02_FromInt.f (k+1) a0):=by
  intro a0 k
  unfold galoisref02_FromInt.f
  with_reducible repeat' first
      |exact galoisref01_Of.mono _ _
      |exact LeO.refl _
      |exact LeO.none _
      |refine LeO.ite ?_ ?_
      |refine LeO.bind ?_ (fun _=>?_)
mutual
def exact_mulWords.l0:Nat→List Int→List Int→List Int→Int→Int→Option (List Int)
  |0,_,_,_,_,_=>none
  |k+1,x1,x5,x20,x21,x22=>if x22<x21 then(if 0≤x22 then(if x22<(x20.length:Int)then(exact_mulWords.l1 k x1 x5 x22 (rd x20 x22) 0 x20 x21 x22 x1 (x1.length:Int) 0)else(none))else(none))else((exact_trim.f k x5).bind fun t355=>(some t355))
def exact_mulWords.l1:Nat→List Int→List Int→Int→Int→Int→List Int→Int→Int→List Int→Int→Int→Option (List Int)
  |0,_,_,_,_,_,_,_,_,_,_,_=>none
  |k+1,x1,x5,x6,x7,x8,x20,x21,x22,x27,x28,x29=>if x29<x28 then(if 0≤x29 then(if x29<(x27.length:Int)then((bits_Mul64.f x7 (rd x27 x29)).bind fun bt360=>(if 0≤(wrap64 (x6+x29))then(if(wrap64 (x6+x29))<(x5.length:Int)then((bits_Add64.f bt360.2 (rd x5 (wrap64 (x6+x29))) 0).bind fun bt363=>((bits_Add64.f bt363.1 x8 0).bind fun bt365=>(exact_mulWords.l1 k x1 (x5.set ((wrap64 (x6+x29)):Int).toNat bt365.1) x6 x7 (IntKind.u64.wrap ((IntKind.u64.wrap (bt360.1+bt363.2))+bt365.2)) x20 x21 x22 x27 x28 (wrap64 (x29+1)))))else(none))else(none)))else(none))else(none))else(if 0≤(wrap64 (x6+(x1.length:Int)))then(if(wrap64 (x6+(x1.length:Int)))<(x5.length:Int)then(exact_mulWords.l0 k x1 (x5.set ((wrap64 (x6+(x1.length:Int))):Int).toNat x8) x20 x21 (wrap64 (x22+1)))else(none))else(none))
end
def exact_mulWords.f (k:Nat) (l0:List Int) (l1:List Int):Option (List Int):=if 0≤(wrap64 ((l0.length:Int)+(l1.length:Int)))then(if(wrap64 ((l0.length:Int)+(l1.length:Int)):Int).toNat≤35184372088832 then(exact_mulWords.l0 k l1 (List.replicate (wrap64 ((l0.length:Int)+(l1.length:Int)):Int).toNat 0) l0 (l0.length:Int) 0)else(none))else(none)
theorem exact_mulWords.U1 {g:Prop} (h:g:=by
  with_reducible repeat' first
  |exact ih0 _ _ _ _ _
  |exact ih1 _ _ _ _ _ _ _ _ _ _ _
  |exact exact_trim.mono _ _
  |exact LeO.refl _
  |exact LeO.none _
  |refine LeO.ite ?_ ?_
  |refine LeO.bind ?_ (fun _=>?_)):g:=h
theorem exact_mulWords.mono_l:∀k,(∀y0 y1 y2 y3 y4,LeO (exact_mulWords.l0 k y0 y1 y2 y3 y4) (exact_mulWords.l0 (k+1) y0 y1 y2 y3 y4))∧(∀y0 y1 y2 y3 y4 y5 y6 y7 y8 y9 y10,LeO (exact_mulWords.l1 k y0 y1 y2 y3 y4 y5 y6 y7 y8 y9 y10) (exact_mulWords.l1 (k+1) y0 y1 y2 y3 y4 y5 y6 y7 y8 y9 y10))
  |0=>⟨fun _ _ _ _ _ r h=>by simp [exact_mulWords.l0]at h,fun _ _ _ _ _ _ _ _ _ _ _ r h=>by simp [exact_mulWords.l1]at h⟩
  | k+1=>by
    obtain⟨ih0,ih1⟩:=exact_mulWords.mono_l k
    refine⟨?_,?_⟩
    · intro y0 y1 y2 y3 y4
      unfold exact_mulWords.l0
      exact exact_mulWords.U1
    · intro y0 y1 y2 y3 y4 y5 y6 y7 y8 y9 y10
      unfold exact_mulWords.l1
      exact exact_mulWords.U1
theorem exact_mulWords.mono:∀a0 a1 k,LeO (exact_mulWords.f k a0 a1) (exact_mulWords.f (k+1) a0 a1):=by
  intro a0 a1 k
  obtain⟨ih0,ih1⟩:=exact_mulWords.mono_l k
  unfold exact_mulWords.f
  exact exact_mulWords.U1
def exact_NatMul.f (k:Nat) (a0:ByteArray) (a1:ByteArray):Option (ByteArray):=(exact_words.f k a0).bind fun t369=>((exact_words.f k a1).bind fun t372=>((exact_mulWords.f k t369 t372).bind fun t375=>((exact_pack.f k t375).bind fun t378=>(some t378))))
theorem exact_NatMul.mono:∀a0 a1 k,LeO (exact_NatMul.f k a0 a1) (exact_NatMul.f (k+1) a0 a1):=by
  intro a0 a1 k
  unfold exact_NatMul.f
  with_reducible repeat' first
      |exact exact_mulWords.mono _ _ _
      |exact exact_pack.mono _ _
      |exact exact_words.mono _ _
      |exact LeO.refl _
      |exact LeO.none _
      |refine LeO.ite ?_ ?_
      |refine LeO.bind ?_ (fun _=>?_)
def bits_Len8.f (a0:Int):Option (Int):=if 0≤a0∧a0≤255 then some (Lib.bitLen a0.toNat:Int)else none
def exact_NatBits.f (a0:ByteArray):Option (Int):=if a0.toList=([]:List UInt8)then(some 0)else(if 0<(a0.size:Int)then((bits_Len8.f (bt a0 0)).bind fun t379=>(some (wrap64 ((wrap64 (8*(wrap64 ((a0.size:Int)-1))))+t379))))else(none))
def exact_NatPow.l0:Nat→Int→List Int→List Int→Option (ByteArray)
  |0,_,_,_=>none
  |k+1,x1,x5,x6=>if x1>0 then(if(Go.bits .and .i64 x1 1)=1 then((exact_mulWords.f k x5 x6).bind fun t387=>((exact_mulWords.f k x6 x6).bind fun t390=>(exact_NatPow.l0 k (x1/2) t387 t390)))else((exact_mulWords.f k x6 x6).bind fun t393=>(exact_NatPow.l0 k (x1/2) x5 t393)))else((exact_pack.f k x5).bind fun t386=>(some t386))
def exact_NatPow.f (k:Nat) (a0:ByteArray) (a1:Int):Option (ByteArray):=(exact_words.f k a0).bind fun t383=>(exact_NatPow.l0 k a1 (([1]:List Int)) t383)
theorem exact_NatPow.U1 {g:Prop} (h:g:=by
  with_reducible repeat' first
  |exact ih0 _ _ _
  |exact exact_mulWords.mono _ _ _
  |exact exact_pack.mono _ _
  |exact exact_words.mono _ _
  |exact LeO.refl _
  |exact LeO.none _
  |refine LeO.ite ?_ ?_
  |refine LeO.bind ?_ (fun _=>?_)):g:=h
theorem exact_NatPow.mono_l:∀k,(∀y0 y1 y2,LeO (exact_NatPow.l0 k y0 y1 y2) (exact_NatPow.l0 (k+1) y0 y1 y2))
  |0=>fun _ _ _ r h=>by simp [exact_NatPow.l0]at h
  | k+1=>by
    have ih0:=exact_NatPow.mono_l k
    · intro y0 y1 y2
      unfold exact_NatPow.l0
      exact exact_NatPow.U1
theorem exact_NatPow.mono:∀a0 a1 k,LeO (exact_NatPow.f k a0 a1) (exact_NatPow.f (k+1) a0 a1):=by
  intro a0 a1 k
  have ih0:=exact_NatPow.mono_l k
  unfold exact_NatPow.f
  exact exact_NatPow.U1
def exact_NatCmp.j0:Nat→ByteArray→ByteArray→Bool→Option (Int)
  |0,_,_,_=>none
  |k+1,x0,x1,x5=>if x5=true then(some (-1))else(if x0.toList=x1.toList then(some 0)else(some 1))
def exact_NatCmp.f (k:Nat) (a0:ByteArray) (a1:ByteArray):Option (Int):=if(a0.size:Int)<(a1.size:Int)then(exact_NatCmp.j0 k a0 a1 true)else(if(a0.size:Int)=(a1.size:Int)then(exact_NatCmp.j0 k a0 a1 (Op.bytesLess a0.toList a1.toList))else(exact_NatCmp.j0 k a0 a1 false))
theorem exact_NatCmp.U1 {g:Prop} (h:g:=by
  with_reducible repeat' first
  |exact ih0 _ _ _
  |exact LeO.refl _
  |exact LeO.none _
  |refine LeO.ite ?_ ?_
  |refine LeO.bind ?_ (fun _=>?_)):g:=h
theorem exact_NatCmp.mono_l:∀k,(∀y0 y1 y2,LeO (exact_NatCmp.j0 k y0 y1 y2) (exact_NatCmp.j0 (k+1) y0 y1 y2))
  |0=>fun _ _ _ r h=>by simp [exact_NatCmp.j0]at h
  | k+1=>by
    have ih0:=exact_NatCmp.mono_l k
    · intro y0 y1 y2
      unfold exact_NatCmp.j0
      exact exact_NatCmp.U1
theorem exact_NatCmp.mono:∀a0 a1 k,LeO (exact_NatCmp.f k a0 a1) (exact_NatCmp.f (k+1) a0 a1):=by
  intro a0 a1 k
  have ih0:=exact_NatCmp.mono_l k
  unfold exact_NatCmp.f
  exact exact_NatCmp.U1
def exact_NatTwo.f (a0:Int):Option (ByteArray):=if 0≤(wrap64 ((wrap64 (Int.tdiv a0 8))+1))then(if(wrap64 ((wrap64 (Int.tdiv a0 8))+1):Int).toNat≤281474976710656 then((some (List.replicate (wrap64 ((wrap64 (Int.tdiv a0 8))+1):Int).toNat 0:List Int)).bind fun y396=>(if 0≤(Int.tmod a0 8)then(if 0<(y396.length:Int)then(some (strOfNums (y396.set (0:Int).toNat (shl .u8 1 (Int.tmod a0 8)))))else(none))else(none)))else(none))else(none)
def exact_NatRoot.l0:Nat→ByteArray→Int→ByteArray→Int→Option (ByteArray)
  |0,_,_,_,_=>none
  |k+1,x0,x1,x5,x6=>if x6≥0 then((exact_NatTwo.f x6).bind fun t401=>((exact_NatAdd.f k x5 t401).bind fun t402=>((exact_NatPow.f k t402 x1).bind fun t403=>((exact_NatCmp.f k t403 x0).bind fun t404=>(if t404≤0 then(exact_NatRoot.l0 k x0 x1 t402 (wrap64 (x6-1)))else(exact_NatRoot.l0 k x0 x1 x5 (wrap64 (x6-1))))))))else(some x5)
def exact_NatRoot.f (k:Nat) (a0:ByteArray) (a1:Int):Option (ByteArray):=(exact_NatBits.f a0).bind fun t400=>(if a1=0 then(none)else(exact_NatRoot.l0 k a0 a1 (⟨#[]⟩:ByteArray) (wrap64 (Int.tdiv (wrap64 ((wrap64 (t400+a1))-1)) a1))))
theorem exact_NatRoot.U1 {g:Prop} (h:g:=by
  with_reducible repeat' first
  |exact ih0 _ _ _ _
  |exact exact_NatAdd.mono _ _ _
  |exact exact_NatCmp.mono _ _ _
  |exact exact_NatPow.mono _ _ _
  |exact LeO.refl _
  |exact LeO.none _
  |refine LeO.ite ?_ ?_
  |refine LeO.bind ?_ (fun _=>?_)):g:=h
theorem exact_NatRoot.mono_l:∀k,(∀y0 y1 y2 y3,LeO (exact_NatRoot.l0 k y0 y1 y2 y3) (exact_NatRoot.l0 (k+1) y0 y1 y2 y3))
  |0=>fun _ _ _ _ r h=>by simp [exact_NatRoot.l0]at h
  | k+1=>by
    have ih0:=exact_NatRoot.mono_l k
    · intro y0 y1 y2 y3
      unfold exact_NatRoot.l0
      exact exact_NatRoot.U1
theorem exact_NatRoot.mono:∀a0 a1 k,LeO (exact_NatRoot.f k a0 a1) (exact_NatRoot.f (k+1) a0 a1):=by
  intro a0 a1 k
  have ih0:=exact_NatRoot.mono_l k
  unfold exact_NatRoot.f
  exact exact_NatRoot.U1
def exact_IntSqrt.f (k:Nat) (a0_0:Bool) (a0_1:ByteArray):Option (Bool×ByteArray×Bool):=if a0_0=true then(some (false,(⟨#[]⟩:ByteArray),false))else((exact_NatRoot.f k a0_1 2).bind fun t407=>((exact_NatMul.f k t407 t407).bind fun t408=>(if t408.toList=a0_1.toList then(some (false,t407,true))else(some (false,(⟨#[]⟩:ByteArray),false)))))
theorem exact_IntSqrt.mono:∀a0 a1 k,LeO (exact_IntSqrt.f k a0 a1) (exact_IntSqrt.f (k+1) a0 a1):=by
  intro a0 a1 k
  unfold exact_IntSqrt.f
  with_reducible repeat' first
      |exact exact_NatMul.mono _ _ _
      |exact exact_NatRoot.mono _ _ _
      |exact LeO.refl _
      |exact LeO.none _
      |refine LeO.ite ?_ ?_
      |refine LeO.bind ?_ (fun _=>?_)
def galoisref01_Valid.f (a0:ByteArray):Option (Bool):=if a0.toList=([]:List UInt8)then(some true)else(if 0<(a0.size:Int)then(some ((bt a0 0) !=0))else(none))
def galoisref02_Valid.f (a0_0:Bool) (a0_1:ByteArray):Option (Bool):=(galoisref01_Valid.f a0_1).bind fun t551=>(if t551=true then(if a0_0=true then(some (a0_1.toList !=([]:List UInt8)))else(some true))else(some false))
def galoisref01_Fits.f (a0:ByteArray):Option (Int):=if(a0.size:Int)>1024 then(some 4)else(some 0)
def galoisref02_Fits.f (a0_0:Bool) (a0_1:ByteArray):Option (Int):=(galoisref01_Fits.f a0_1).bind fun t490=>(some t490)
def galoisref02_Check.f (a0_0:Bool) (a0_1:ByteArray):Option (Int):=(galoisref02_Valid.f a0_0 a0_1).bind fun t492=>(if t492=true then((galoisref02_Fits.f a0_0 a0_1).bind fun t493=>(some t493))else(some 1))
def galoisref01_trimV.l0:Nat→List Int→Option (List Int)
  |0,_=>none
  |k+1,x0=>if(x0.length:Int)>0 then(if 0≤(wrap64 ((x0.length:Int)-1))then(if(wrap64 ((x0.length:Int)-1))<(x0.length:Int)then(if(rd x0 (wrap64 ((x0.length:Int)-1)))=0 then(if(wrap64 ((x0.length:Int)-1))≤(x0.length:Int)then(galoisref01_trimV.l0 k (x0.take ((wrap64 ((x0.length:Int)-1)):Int).toNat))else(none))else(some x0))else(none))else(none))else(some x0)
def galoisref01_trimV.f (k:Nat) (l0:List Int):Option (List Int):=galoisref01_trimV.l0 k l0
theorem galoisref01_trimV.U1 {g:Prop} (h:g:=by
  with_reducible repeat' first
  |exact ih0 _
  |exact LeO.refl _
  |exact LeO.none _
  |refine LeO.ite ?_ ?_
  |refine LeO.bind ?_ (fun _=>?_)):g:=h
theorem galoisref01_trimV.mono_l:∀k,(∀y0,LeO (galoisref01_trimV.l0 k y0) (galoisref01_trimV.l0 (k+1) y0))
  |0=>fun _ r h=>by simp [galoisref01_trimV.l0]at h
  | k+1=>by
    have ih0:=galoisref01_trimV.mono_l k
    · intro y0
      unfold galoisref01_trimV.l0
      exact galoisref01_trimV.U1
theorem galoisref01_trimV.mono:∀a0 k,LeO (galoisref01_trimV.f k a0) (galoisref01_trimV.f (k+1) a0):=by
  intro a0 k
  have ih0:=galoisref01_trimV.mono_l k
  unfold galoisref01_trimV.f
  exact galoisref01_trimV.U1
def galoisref01_trim.l0:Nat→List Int→Option (List Int)
  |0,_=>none
  |k+1,x0=>if(x0.length:Int)>0 then(if 0≤(wrap64 ((x0.length:Int)-1))then(if(wrap64 ((x0.length:Int)-1))<(x0.length:Int)then(if(rd x0 (wrap64 ((x0.length:Int)-1)))=0 then(if(wrap64 ((x0.length:Int)-1))≤(x0.length:Int)then(galoisref01_trim.l0 k (x0.take ((wrap64 ((x0.length:Int)-1)):Int).toNat))else(none))else(some x0))else(none))else(none))else(some x0)
def galoisref01_trim.f (k:Nat) (l0:List Int):Option (List Int):=galoisref01_trim.l0 k l0
theorem galoisref01_trim.U1 {g:Prop} (h:g:=by
  with_reducible repeat' first
  |exact ih0 _
  |exact LeO.refl _
  |exact LeO.none _
  |refine LeO.ite ?_ ?_
  |refine LeO.bind ?_ (fun _=>?_)):g:=h
theorem galoisref01_trim.mono_l:∀k,(∀y0,LeO (galoisref01_trim.l0 k y0) (galoisref01_trim.l0 (k+1) y0))
  |0=>fun _ r h=>by simp [galoisref01_trim.l0]at h
  | k+1=>by
    have ih0:=galoisref01_trim.mono_l k
    · intro y0
      unfold galoisref01_trim.l0
      exact galoisref01_trim.U1
theorem galoisref01_trim.mono:∀a0 k,LeO (galoisref01_trim.f k a0) (galoisref01_trim.f (k+1) a0):=by
  intro a0 k
  have ih0:=galoisref01_trim.mono_l k
  unfold galoisref01_trim.f
  exact galoisref01_trim.U1
mutual
def galoisref01_limbs.l0:Nat→ByteArray→List Int→Int→Option (List Int)
  |0,_,_,_=>none
  |k+1,x0,x3,x4=>if x4>0 then(galoisref01_limbs.l1 k x0 x3 x4 0 (mx 0 (wrap64 (x4-4))))else((galoisref01_trim.f k x3).bind fun t513=>(some t513))
def galoisref01_limbs.l1:Nat→ByteArray→List Int→Int→Int→Int→Option (List Int)
  |0,_,_,_,_,_=>none
  |k+1,x0,x3,x4,x5,x6=>if x6<x4 then(if 0≤x6 then(if x6<(x0.size:Int)then(galoisref01_limbs.l1 k x0 x3 x4 (IntKind.u64.wrap ((IntKind.u64.wrap (x5*256))+(IntKind.u64.wrap (bt x0 x6)))) (wrap64 (x6+1)))else(none))else(none))else(if x3.length<17592186044416 then(galoisref01_limbs.l0 k x0 (x3++[x5]) (wrap64 (x4-4)))else(none))
end
def galoisref01_limbs.f (k:Nat) (a0:ByteArray):Option (List Int):=galoisref01_limbs.l0 k a0 ([]:List Int) (a0.size:Int)
theorem galoisref01_limbs.U1 {g:Prop} (h:g:=by
  with_reducible repeat' first
  |exact ih0 _ _ _
  |exact ih1 _ _ _ _ _
  |exact galoisref01_trim.mono _ _
  |exact LeO.refl _
  |exact LeO.none _
  |refine LeO.ite ?_ ?_
  |refine LeO.bind ?_ (fun _=>?_)):g:=h
theorem galoisref01_limbs.mono_l:∀k,(∀y0 y1 y2,LeO (galoisref01_limbs.l0 k y0 y1 y2) (galoisref01_limbs.l0 (k+1) y0 y1 y2))∧(∀y0 y1 y2 y3 y4,LeO (galoisref01_limbs.l1 k y0 y1 y2 y3 y4) (galoisref01_limbs.l1 (k+1) y0 y1 y2 y3 y4))
  |0=>⟨fun _ _ _ r h=>by simp [galoisref01_limbs.l0]at h,fun _ _ _ _ _ r h=>by simp [galoisref01_limbs.l1]at h⟩
  | k+1=>by
    obtain⟨ih0,ih1⟩:=galoisref01_limbs.mono_l k
    refine⟨?_,?_⟩
    · intro y0 y1 y2
      unfold galoisref01_limbs.l0
      exact galoisref01_limbs.U1
    · intro y0 y1 y2 y3 y4
      unfold galoisref01_limbs.l1
      exact galoisref01_limbs.U1
theorem galoisref01_limbs.mono:∀a0 k,LeO (galoisref01_limbs.f k a0) (galoisref01_limbs.f (k+1) a0):=by
  intro a0 k
  obtain⟨ih0,ih1⟩:=galoisref01_limbs.mono_l k
  unfold galoisref01_limbs.f
  exact galoisref01_limbs.U1
def galoisref01_below.l0:Nat→List Int→List Int→Int→Option (Bool)
  |0,_,_,_=>none
  |k+1,x0,x1,x5=>if x5≥0 then(if 0≤x5 then(if x5<(x0.length:Int)then(if x5<(x1.length:Int)then(if(rd x0 x5)=(rd x1 x5)then(galoisref01_below.l0 k x0 x1 (wrap64 (x5-1)))else(some (decide ((rd x0 x5)<(rd x1 x5)))))else(none))else(none))else(none))else(some false)
def galoisref01_below.f (k:Nat) (l0:List Int) (l1:List Int):Option (Bool):=(galoisref01_trimV.f k l0).bind fun t519=>(if(t519.length:Int)=(l1.length:Int)then(galoisref01_below.l0 k t519 l1 (wrap64 ((t519.length:Int)-1)))else(some (decide ((t519.length:Int)<(l1.length:Int)))))
theorem galoisref01_below.U1 {g:Prop} (h:g:=by
  with_reducible repeat' first
  |exact ih0 _ _ _
  |exact galoisref01_trimV.mono _ _
  |exact LeO.refl _
  |exact LeO.none _
  |refine LeO.ite ?_ ?_
  |refine LeO.bind ?_ (fun _=>?_)):g:=h
theorem galoisref01_below.mono_l:∀k,(∀y0 y1 y2,LeO (galoisref01_below.l0 k y0 y1 y2) (galoisref01_below.l0 (k+1) y0 y1 y2))
  |0=>fun _ _ _ r h=>by simp [galoisref01_below.l0]at h
  | k+1=>by
    have ih0:=galoisref01_below.mono_l k
    · intro y0 y1 y2
      unfold galoisref01_below.l0
      exact galoisref01_below.U1
theorem galoisref01_below.mono:∀a0 a1 k,LeO (galoisref01_below.f k a0 a1) (galoisref01_below.f (k+1) a0 a1):=by
  intro a0 a1 k
  have ih0:=galoisref01_below.mono_l k
  unfold galoisref01_below.f
  exact galoisref01_below.U1
mutual
def galoisref01_DivMod.l0:Nat→List Int→Int→List Int→List Int→Int→Option (ByteArray×ByteArray)
  |0,_,_,_,_,_=>none
  |k+1,x7,x8,x9,x10,x11=>if x11≥0 then(galoisref01_DivMod.l1 k x7 x8 x9 x10 x11)else((galoisref01_pack.f k x10).bind fun t538=>((galoisref01_pack.f k x9).bind fun t539=>(some (t538,t539))))
def galoisref01_DivMod.l1:Nat→List Int→Int→List Int→List Int→Int→Option (ByteArray×ByteArray)
  |0,_,_,_,_,_=>none
  |k+1,x7,x8,x9,x10,x11=>if 0≤x11 then(if x11≤(x9.length:Int)then((galoisref01_below.f k (x9.drop (x11:Int).toNat) x7).bind fun t544=>(if t544=true then(galoisref01_DivMod.l0 k x7 x8 x9 x10 (wrap64 (x11-1)))else(if 0≤(wrap64 (x11+x8))then(if(wrap64 (x11+x8))<(x9.length:Int)then(if 0≤(wrap64 ((wrap64 (x11+x8))-1))then(if(wrap64 ((wrap64 (x11+x8))-1))<(x9.length:Int)then(if 0≤(wrap64 (x8-1))then(if(wrap64 (x8-1))<(x7.length:Int)then(if(IntKind.u64.wrap ((rd x7 (wrap64 (x8-1)))+1))=0 then(none)else(if x11<(x10.length:Int)then(galoisref01_DivMod.l2 k x7 x8 x9 (x10.set (x11:Int).toNat (IntKind.u64.wrap ((rd x10 x11)+(mx 1 (IntKind.u64.wrap (Int.tdiv (IntKind.u64.wrap ((IntKind.u64.wrap ((rd x9 (wrap64 (x11+x8)))*4294967296))+(rd x9 (wrap64 ((wrap64 (x11+x8))-1))))) (IntKind.u64.wrap ((rd x7 (wrap64 (x8-1)))+1)))))))) x11 (mx 1 (IntKind.u64.wrap (Int.tdiv (IntKind.u64.wrap ((IntKind.u64.wrap ((rd x9 (wrap64 (x11+x8)))*4294967296))+(rd x9 (wrap64 ((wrap64 (x11+x8))-1))))) (IntKind.u64.wrap ((rd x7 (wrap64 (x8-1)))+1))))) 0 0)else(none)))else(none))else(none))else(none))else(none))else(none))else(none))))else(none))else(none)
def galoisref01_DivMod.l2:Nat→List Int→Int→List Int→List Int→Int→Int→Int→Int→Option (ByteArray×ByteArray)
  |0,_,_,_,_,_,_,_,_=>none
  |k+1,x7,x8,x9,x10,x11,x12,x13,x14=>if x14<x8 then(if 0≤x14 then(if x14<(x7.length:Int)then(if 0≤(wrap64 (x11+x14))then(if(wrap64 (x11+x14))<(x9.length:Int)then(if(rd x9 (wrap64 (x11+x14)))<(Go.bits .and .u64 (IntKind.u64.wrap ((IntKind.u64.wrap ((rd x7 x14)*x12))+x13)) 4294967295)then((some (x9.set ((wrap64 (x11+x14)):Int).toNat (IntKind.u64.wrap ((rd x9 (wrap64 (x11+x14)))+4294967296)):List Int)).bind fun y553=>(galoisref01_DivMod.l2 k x7 x8 (y553.set ((wrap64 (x11+x14)):Int).toNat (IntKind.u64.wrap ((rd y553 (wrap64 (x11+x14)))-(Go.bits .and .u64 (IntKind.u64.wrap ((IntKind.u64.wrap ((rd x7 x14)*x12))+x13)) 4294967295)))) x10 x11 x12 (IntKind.u64.wrap (((IntKind.u64.wrap ((IntKind.u64.wrap ((rd x7 x14)*x12))+x13))/4294967296)+1)) (wrap64 (x14+1))))else(galoisref01_DivMod.l2 k x7 x8 (x9.set ((wrap64 (x11+x14)):Int).toNat (IntKind.u64.wrap ((rd x9 (wrap64 (x11+x14)))-(Go.bits .and .u64 (IntKind.u64.wrap ((IntKind.u64.wrap ((rd x7 x14)*x12))+x13)) 4294967295)))) x10 x11 x12 ((IntKind.u64.wrap ((IntKind.u64.wrap ((rd x7 x14)*x12))+x13))/4294967296) (wrap64 (x14+1))))else(none))else(none))else(none))else(none))else(if 0≤(wrap64 (x11+x8))then(if(wrap64 (x11+x8))<(x9.length:Int)then(galoisref01_DivMod.l1 k x7 x8 (x9.set ((wrap64 (x11+x8)):Int).toNat (IntKind.u64.wrap ((rd x9 (wrap64 (x11+x8)))-x13))) x10 x11)else(none))else(none))
end
def galoisref01_DivMod.f (k:Nat) (a0:ByteArray) (a1:ByteArray):Option (ByteArray×ByteArray):=if a1.toList=([]:List UInt8)then(some ((⟨#[]⟩:ByteArray),(⟨#[]⟩:ByteArray)))else((galoisref01_limbs.f k a0).bind fun t526=>((galoisref01_limbs.f k a1).bind fun t529=>(if t526.length<17592186044416 then(if 0≤(mx 0 (wrap64 ((wrap64 ((t526.length:Int)-(t529.length:Int)))+1)))then(if(mx 0 (wrap64 ((wrap64 ((t526.length:Int)-(t529.length:Int)))+1)):Int).toNat≤35184372088832 then((some (List.replicate (mx 0 (wrap64 ((wrap64 ((t526.length:Int)-(t529.length:Int)))+1)):Int).toNat 0:List Int)).bind fun y535=>(galoisref01_DivMod.l0 k t529 (t529.length:Int) (t526++[0]) y535 (wrap64 ((y535.length:Int)-1))))else(none))else(none))else(none))))
theorem galoisref01_DivMod.U1 {g:Prop} (h:g:=by
  with_reducible repeat' first
  |exact ih0 _ _ _ _ _
  |exact ih1 _ _ _ _ _
  |exact ih2 _ _ _ _ _ _ _ _
  |exact galoisref01_below.mono _ _ _
  |exact galoisref01_limbs.mono _ _
  |exact galoisref01_pack.mono _ _
  |exact LeO.refl _
  |exact LeO.none _
  |refine LeO.ite ?_ ?_
  |refine LeO.bind ?_ (fun _=>?_)):g:=h
theorem galoisref01_DivMod.mono_l:∀k,(∀y0 y1 y2 y3 y4,LeO (galoisref01_DivMod.l0 k y0 y1 y2 y3 y4) (galoisref01_DivMod.l0 (k+1) y0 y1 y2 y3 y4))∧(∀y0 y1 y2 y3 y4,LeO (galoisref01_DivMod.l1 k y0 y1 y2 y3 y4) (galoisref01_DivMod.l1 (k+1) y0 y1 y2 y3 y4))∧(∀y0 y1 y2 y3 y4 y5 y6 y7,LeO (galoisref01_DivMod.l2 k y0 y1 y2 y3 y4 y5 y6 y7) (galoisref01_DivMod.l2 (k+1) y0 y1 y2 y3 y4 y5 y6 y7))
  |0=>⟨fun _ _ _ _ _ r h=>by simp [galoisref01_DivMod.l0]at h,fun _ _ _ _ _ r h=>by simp [galoisref01_DivMod.l1]at h,fun _ _ _ _ _ _ _ _ r h=>by simp [galoisref01_DivMod.l2]at h⟩
  | k+1=>by
    obtain⟨ih0,ih1,ih2⟩:=galoisref01_DivMod.mono_l k
    refine⟨?_,?_,?_⟩
    · intro y0 y1 y2 y3 y4
      unfold galoisref01_DivMod.l0
      exact galoisref01_DivMod.U1
    · intro y0 y1 y2 y3 y4
      unfold galoisref01_DivMod.l1
      exact galoisref01_DivMod.U1
    · intro y0 y1 y2 y3 y4 y5 y6 y7
      unfold galoisref01_DivMod.l2
      exact galoisref01_DivMod.U1
theorem galoisref01_DivMod.mono:∀a0 a1 k,LeO (galoisref01_DivMod.f k a0 a1) (galoisref01_DivMod.f (k+1) a0 a1):=by
  intro a0 a1 k
  obtain⟨ih0,ih1,ih2⟩:=galoisref01_DivMod.mono_l k
  unfold galoisref01_DivMod.f
  exact galoisref01_DivMod.U1
def galoisref02_Make.f (a0:Bool) (a1:ByteArray):Option (Bool×ByteArray):=if a0=true then(some ((!a1.toList.isEmpty),a1))else(some (false,a1))
def galoisref01_Gcd.l0:Nat→ByteArray→ByteArray→Option (ByteArray)
  |0,_,_=>none
  |k+1,x0,x1=>if x1.toList=([]:List UInt8)then(some x0)else((galoisref01_DivMod.f k x0 x1).bind fun bt624=>(galoisref01_Gcd.l0 k x1 bt624.2))
def galoisref01_Gcd.f (k:Nat) (a0:ByteArray) (a1:ByteArray):Option (ByteArray):=galoisref01_Gcd.l0 k a0 a1
theorem galoisref01_Gcd.U1 {g:Prop} (h:g:=by
  with_reducible repeat' first
  |exact ih0 _ _
  |exact galoisref01_DivMod.mono _ _ _
  |exact LeO.refl _
  |exact LeO.none _
  |refine LeO.ite ?_ ?_
  |refine LeO.bind ?_ (fun _=>?_)):g:=h
theorem galoisref01_Gcd.mono_l:∀k,(∀y0 y1,LeO (galoisref01_Gcd.l0 k y0 y1) (galoisref01_Gcd.l0 (k+1) y0 y1))
  |0=>fun _ _ r h=>by simp [galoisref01_Gcd.l0]at h
  | k+1=>by
    have ih0:=galoisref01_Gcd.mono_l k
    · intro y0 y1
      unfold galoisref01_Gcd.l0
      exact galoisref01_Gcd.U1
theorem galoisref01_Gcd.mono:∀a0 a1 k,LeO (galoisref01_Gcd.f k a0 a1) (galoisref01_Gcd.f (k+1) a0 a1):=by
  intro a0 a1 k
  have ih0:=galoisref01_Gcd.mono_l k
  unfold galoisref01_Gcd.f
  exact galoisref01_Gcd.U1
def exact_IntAdd.f (k:Nat) (a0_0:Bool) (a0_1:ByteArray) (a1_0:Bool) (a1_1:ByteArray):Option (Bool×ByteArray):=if(a0_0==a1_0)=true then((exact_NatAdd.f k a0_1 a1_1).bind fun t716=>((exact_IntMake.f a0_0 t716).bind fun bt717=>(some (bt717.1,bt717.2))))else((exact_NatCmp.f k a0_1 a1_1).bind fun t719=>(if t719<0 then((exact_NatSub.f k a1_1 a0_1).bind fun t720=>((exact_IntMake.f a1_0 t720).bind fun bt721=>(some (bt721.1,bt721.2))))else((exact_NatSub.f k a0_1 a1_1).bind fun t723=>((exact_IntMake.f a0_0 t723).bind fun bt724=>(some (bt724.1,bt724.2))))))
theorem exact_IntAdd.mono:∀a0 a1 a2 a3 k,LeO (exact_IntAdd.f k a0 a1 a2 a3) (exact_IntAdd.f (k+1) a0 a1 a2 a3):=by
  intro a0 a1 a2 a3 k
  unfold exact_IntAdd.f
  with_reducible repeat' first
      |exact exact_NatAdd.mono _ _ _
      |exact exact_NatCmp.mono _ _ _
      |exact exact_NatSub.mono _ _ _
      |exact LeO.refl _
      |exact LeO.none _
      |refine LeO.ite ?_ ?_
      |refine LeO.bind ?_ (fun _=>?_)
def natural_Of.byte (a:Int) (j:Nat):Int:=(a/2^(56-8*j))%256
def natural_Of.bytes (a:Int) (k:Nat):List Int:=(List.range k).map (natural_Of.byte a)++List.replicate (8-k) 0
def natural_Of.f (a0:Int):Option (ByteArray):=if 0≤a0∧a0≤18446744073709551615 then some (strOfNums ((natural_Of.bytes a0 8).dropWhile (· ==0)))else none
def natural_Of.len (v:Value):Nat:=match v with| .slice _ n _=>n|_=>0
def natural_bounded.f (a0:ByteArray):Option (ByteArray×Int):=if(a0.size:Int)>1024 then(some ((⟨#[]⟩:ByteArray),4))else(some (a0,0))
mutual
def natural_Parse.j0:Nat→ByteArray→Bool→Option (ByteArray×Int)
  |0,_,_=>none
  |k+1,x0,x24=>if x24=true then(some ((⟨#[]⟩:ByteArray),11))else(natural_Parse.l0 k x0 (x0.size:Int) 0)
def natural_Parse.l0:Nat→ByteArray→Int→Int→Option (ByteArray×Int)
  |0,_,_,_=>none
  |k+1,x0,x26,x27=>if x27<x26 then(if 0≤x27 then(if x27<(x0.size:Int)then(if(bt x0 x27)<48 then(some ((⟨#[]⟩:ByteArray),11))else(if(bt x0 x27)>57 then(some ((⟨#[]⟩:ByteArray),11))else(natural_Parse.l0 k x0 x26 (wrap64 (x27+1)))))else(none))else(none))else(natural_Parse.l1 k x0 (⟨#[]⟩:ByteArray) 0)
def natural_Parse.l1:Nat→ByteArray→ByteArray→Int→Option (ByteArray×Int)
  |0,_,_,_=>none
  |k+1,x0,x5,x6=>if x6<(x0.size:Int)then(natural_Parse.l2 k x0 x5 x6 (mn (x0.size:Int) (wrap64 (x6+18))) 0 1)else((natural_bounded.f x5).bind fun bt1174=>(some (bt1174.1,bt1174.2)))
def natural_Parse.l2:Nat→ByteArray→ByteArray→Int→Int→Int→Int→Option (ByteArray×Int)
  |0,_,_,_,_,_,_=>none
  |k+1,x0,x5,x6,x7,x8,x9=>if x6<x7 then(if 0≤x6 then(if x6<(x0.size:Int)then(natural_Parse.l2 k x0 x5 (wrap64 (x6+1)) x7 (IntKind.u64.wrap ((IntKind.u64.wrap (10*x8))+(((bt x0 x6)-48)%256))) (IntKind.u64.wrap (10*x9)))else(none))else(none))else((natural_Of.f x9).bind fun t1176=>((exact_NatMul.f k x5 t1176).bind fun t1177=>((natural_Of.f x8).bind fun t1178=>((exact_NatAdd.f k t1177 t1178).bind fun t1179=>(natural_Parse.l1 k x0 t1179 x6)))))
end
def natural_Parse.f (k:Nat) (a0:ByteArray):Option (ByteArray×Int):=if(a0.size:Int)>4096 then(some ((⟨#[]⟩:ByteArray),12))else(if a0.toList=([]:List UInt8)then(natural_Parse.j0 k a0 true)else(if 0<(a0.size:Int)then(if(bt a0 0)=48 then(natural_Parse.j0 k a0 (decide ((a0.size:Int)>1)))else(natural_Parse.j0 k a0 false))else(none)))
theorem natural_Parse.U1 {g:Prop} (h:g:=by
  with_reducible repeat' first
  |exact ih0 _ _
  |exact ih1 _ _ _
  |exact ih2 _ _ _
  |exact ih3 _ _ _ _ _ _
  |exact exact_NatAdd.mono _ _ _
  |exact exact_NatMul.mono _ _ _
  |exact LeO.refl _
  |exact LeO.none _
  |refine LeO.ite ?_ ?_
  |refine LeO.bind ?_ (fun _=>?_)):g:=h
theorem natural_Parse.mono_l:∀k,(∀y0 y1,LeO (natural_Parse.j0 k y0 y1) (natural_Parse.j0 (k+1) y0 y1))∧(∀y0 y1 y2,LeO (natural_Parse.l0 k y0 y1 y2) (natural_Parse.l0 (k+1) y0 y1 y2))∧(∀y0 y1 y2,LeO (natural_Parse.l1 k y0 y1 y2) (natural_Parse.l1 (k+1) y0 y1 y2))∧(∀y0 y1 y2 y3 y4 y5,LeO (natural_Parse.l2 k y0 y1 y2 y3 y4 y5) (natural_Parse.l2 (k+1) y0 y1 y2 y3 y4 y5))
  |0=>⟨fun _ _ r h=>by simp [natural_Parse.j0]at h,fun _ _ _ r h=>by simp [natural_Parse.l0]at h,fun _ _ _ r h=>by simp [natural_Parse.l1]at h,fun _ _ _ _ _ _ r h=>by simp [natural_Parse.l2]at h⟩
  | k+1=>by
    obtain⟨ih0,ih1,ih2,ih3⟩:=natural_Parse.mono_l k
    refine⟨?_,?_,?_,?_⟩
    · intro y0 y1
      unfold natural_Parse.j0
      exact natural_Parse.U1
    · intro y0 y1 y2
      unfold natural_Parse.l0
      exact natural_Parse.U1
    · intro y0 y1 y2
      unfold natural_Parse.l1
      exact natural_Parse.U1
    · intro y0 y1 y2 y3 y4 y5
      unfold natural_Parse.l2
      exact natural_Parse.U1
theorem natural_Parse.mono:∀a0 k,LeO (natural_Parse.f k a0) (natural_Parse.f (k+1) a0):=by
  intro a0 k
  obtain⟨ih0,ih1,ih2,ih3⟩:=natural_Parse.mono_l k
  unfold natural_Parse.f
  exact natural_Parse.U1
mutual
def integer_Parse.j0:Nat→ByteArray→Bool→Option (Bool×ByteArray×Int)
  |0,_,_=>none
  |k+1,x0,x4=>if x4=true then(if 1≤(x0.size:Int)then(integer_Parse.j1 k (x0.extract 1 x0.size) x4)else(none))else(integer_Parse.j1 k x0 x4)
def integer_Parse.j1:Nat→ByteArray→Bool→Option (Bool×ByteArray×Int)
  |0,_,_=>none
  |k+1,x0,x4=>(natural_Parse.f k x0).bind fun bt1183=>(if bt1183.2=0 then(if x4=true then(if bt1183.1.toList=([]:List UInt8)then((integer_zero.f).bind fun bt1185=>(some (bt1185.1,bt1185.2,11)))else(some (x4,bt1183.1,0)))else(some (x4,bt1183.1,0)))else((integer_zero.f).bind fun bt1187=>(some (bt1187.1,bt1187.2,bt1183.2))))
end
def integer_Parse.f (k:Nat) (a0:ByteArray):Option (Bool×ByteArray×Int):=if(a0.size:Int)>4096 then((integer_zero.f).bind fun bt1181=>(some (bt1181.1,bt1181.2,12)))else(if(a0.size:Int)>0 then(if 0<(a0.size:Int)then(integer_Parse.j0 k a0 ((bt a0 0)==45))else(none))else(integer_Parse.j0 k a0 false))
theorem integer_Parse.U1 {g:Prop} (h:g:=by
  with_reducible repeat' first
  |exact ih0 _ _
  |exact ih1 _ _
  |exact natural_Parse.mono _ _
  |exact LeO.refl _
  |exact LeO.none _
  |refine LeO.ite ?_ ?_
  |refine LeO.bind ?_ (fun _=>?_)):g:=h
theorem integer_Parse.mono_l:∀k,(∀y0 y1,LeO (integer_Parse.j0 k y0 y1) (integer_Parse.j0 (k+1) y0 y1))∧(∀y0 y1,LeO (integer_Parse.j1 k y0 y1) (integer_Parse.j1 (k+1) y0 y1))
  |0=>⟨fun _ _ r h=>by simp [integer_Parse.j0]at h,fun _ _ r h=>by simp [integer_Parse.j1]at h⟩
  | k+1=>by
    obtain⟨ih0,ih1⟩:=integer_Parse.mono_l k
    refine⟨?_,?_⟩
    · intro y0 y1
      unfold integer_Parse.j0
      exact integer_Parse.U1
    · intro y0 y1
      unfold integer_Parse.j1
      exact integer_Parse.U1
theorem integer_Parse.mono:∀a0 k,LeO (integer_Parse.f k a0) (integer_Parse.f (k+1) a0):=by
  intro a0 k
  obtain⟨ih0,ih1⟩:=integer_Parse.mono_l k
  unfold integer_Parse.f
  exact integer_Parse.U1
end Go.Proofs.Ytjllholdppjllaa.All
namespace Go.Proofs.YtjllholdppjllaaV
open Go Go.RowKit Ytjllholdppjllaa YtjllholdppjllaaE
noncomputable abbrev FX83 (k:Nat) (x0:Int) (x1:Int) (x2:Int):Option R83:=All.bits_Add64.f x0 x1 x2
noncomputable abbrev FX90 (k:Nat) (x0:Int) (x1:Int) (x2:Int):Option R90:=All.bits_Sub64.f x0 x1 x2
noncomputable abbrev FX80 (k:Nat) (x0:Int):Option R80:=All.bits_Len8.f x0
noncomputable abbrev FX97 (k:Nat) (x0:Int):Option R97:=All.bits_Len64.f x0
noncomputable abbrev FX84 (k:Nat) (y0:List Int):Option R84:=(All.exact_trim.f k y0).bind fun r=>some ((r.length:Int),r++y0.drop r.length)
noncomputable abbrev FX76 (k:Nat) (y0:List Int):Option R76:=(All.galoisref01_trim.f k y0).bind fun r=>some ((r.length:Int),r++y0.drop r.length)
noncomputable abbrev FX58 (k:Nat) (x1:List Int) (y0:List Int):Option R58:=(All.galoisref01_below.f k y0 x1).bind fun r=>some (r,y0)
noncomputable abbrev FX70 (k:Nat) (x0:Int):Option R70:=All.natural_Of.f x0
noncomputable abbrev FX98 (k:Nat) (x0:ByteArray) (x1:Int):Option R98:=some (Lib.indexByte x0.data.toList x1.toNat.toUInt8)
end Go.Proofs.YtjllholdppjllaaV
set_option maxRecDepth 100000
namespace Go.Proofs.YtjllholdppjllaaV
open Go Go.RowKit Ytjllholdppjllaa YtjllholdppjllaaE YtjllholdppjllaaW.PrintWords YtjllholdppjllaaW.PrintLast YtjllholdppjllaaW.PrintMore
noncomputable abbrev FX73 (k:Nat) (x0:ByteArray):Option R73:=All.exact_words.f k x0
noncomputable abbrev FX85 (k:Nat) (x0:(List Int)) (x1:(List Int)):Option R85:=All.exact_compareWords.f k x0 x1
noncomputable abbrev FX87 (k:Nat) (x0:Int):Option R87:=All.bits_LeadingZeros64.f x0
noncomputable abbrev FX86 (k:Nat) (x0:Int) (x1:Int) (x2:Int):Option R86:=All.bits_Div64.f k x0 x1 x2
noncomputable abbrev FX88 (k:Nat) (x0:(List Int)) (x1:Int):Option R88:=All.exact_shiftUp.f k x0 x1
noncomputable abbrev FX91 (k:Nat) (x0:Int) (x1:Int):Option R91:=All.bits_Mul64.f x0 x1
noncomputable abbrev FX89 (k:Nat) (x1:(List Int)) (y0:(List Int)):Option R89:=All.exact_step.f k y0 x1
noncomputable abbrev FX74 (k:Nat) (x0:(List Int)) (x1:(List Int)):Option R74:=All.exact_divide.f k x0 x1
noncomputable abbrev FX84v (k:Nat) (x0:(List Int)):Option R84v:=All.exact_trim.f k x0
noncomputable abbrev FX75 (k:Nat) (x0:(List Int)):Option R75:=All.exact_pack.f k x0
noncomputable abbrev FX52 (k:Nat) (x0:ByteArray) (x1:ByteArray):Option R52:=All.exact_NatGcd.f k x0 x1
noncomputable abbrev FX53 (k:Nat) (x0:ByteArray) (x1:ByteArray):Option R53:=All.exact_NatDivMod.f k x0 x1
noncomputable abbrev FX54 (k:Nat) (x0:Bool) (x1:ByteArray):Option R54:=All.exact_IntMake.f x0 x1
noncomputable abbrev FX23 (k:Nat) (x0:TI) (x1:TI):Option R23:=B23 (FX52 k) (FX53 k) (FX54 k) x0 x1
noncomputable abbrev FX72 (k:Nat) (x0:Int):Option R72:=All.exact_NatOf.f k x0
noncomputable abbrev FX48 (k:Nat) (x0:Int):Option R48:=All.exact_IntOf.f k x0
noncomputable abbrev FX20 (k:Nat) (x0:Int) (x1:Int):Option R20:=B20 (FX23 k) (FX48 k) x0 x1
noncomputable abbrev FX5 (k:Nat) (x0:Int) (x1:Int):Option R5:=B5 (FX20 k) x0 x1
noncomputable abbrev FX57 (k:Nat) (x0:ByteArray):Option R57:=All.galoisref01_limbs.f k x0
noncomputable abbrev FX59 (k:Nat) (x0:(List Int)):Option R59:=All.galoisref01_pack.f k x0
noncomputable abbrev FX30 (k:Nat) (x0:ByteArray) (x1:ByteArray):Option R30:=All.galoisref01_DivMod.f k x0 x1
noncomputable abbrev FX29 (k:Nat) (x0:ByteArray) (x1:ByteArray):Option R29:=All.galoisref01_Gcd.f k x0 x1
noncomputable abbrev FX31 (k:Nat) (x0:Bool) (x1:ByteArray):Option R31:=All.galoisref02_Make.f x0 x1
noncomputable abbrev FX12 (k:Nat) (x0:TI) (x1:TI):Option R12:=B12 (FX29 k) (FX30 k) (FX31 k) x0 x1
noncomputable abbrev FX47 (k:Nat) (x0:Int):Option R47:=All.galoisref01_Of.f k x0
noncomputable abbrev FX19 (k:Nat) (x0:Int):Option R19:=All.galoisref02_FromInt.f k x0
noncomputable abbrev FX26 (k:Nat) (x0:Int) (x1:Int):Option R26:=B26 (FX12 k) (FX19 k) x0 x1
noncomputable abbrev FX9 (k:Nat) (x0:Int) (x1:Int):Option R9:=B9 (FX26 k) x0 x1
noncomputable abbrev FX51 (k:Nat) (x0:TQ):Option R51:=B51 x0
noncomputable abbrev FX22 (k:Nat) (x0:TQ):Option R22:=B22 (FX51 k) x0
noncomputable abbrev FX24 (k:Nat) (x0:TI):Option R24:=B24 x0
noncomputable abbrev FX69 (k:Nat) (x0:ByteArray) (x1:ByteArray):Option R69:=All.exact_NatAdd.f k x0 x1
noncomputable abbrev FX77 (k:Nat) (x0:ByteArray) (x1:ByteArray):Option R77:=All.exact_NatCmp.f k x0 x1
noncomputable abbrev FX78 (k:Nat) (x0:ByteArray) (x1:ByteArray):Option R78:=All.exact_NatSub.f k x0 x1
noncomputable abbrev FX60 (k:Nat) (x0:TI) (x1:TI):Option R60:=All.exact_IntAdd.f k x0.1 x0.2 x1.1 x1.2
noncomputable abbrev FX79 (k:Nat) (x0:(List Int)) (x1:(List Int)):Option R79:=All.exact_mulWords.f k x0 x1
noncomputable abbrev FX61 (k:Nat) (x0:ByteArray) (x1:ByteArray):Option R61:=All.exact_NatMul.f k x0 x1
noncomputable abbrev FX34 (k:Nat) (x0:TQ) (x1:TQ):Option R34:=B34 (FX23 k) (FX24 k) (FX54 k) (FX60 k) (FX61 k) x0 x1
noncomputable abbrev FX33 (k:Nat) (x0:(List TQ)):Option R33:=B33 (FX34 k) x0
noncomputable abbrev FX49 (k:Nat) (x0:ByteArray):Option R49:=All.natural_Check.f k x0
noncomputable abbrev FX50 (k:Nat):Option R50:=All.integer_zero.f
noncomputable abbrev FX21 (k:Nat) (x0:TI):Option R21:=All.integer_Check.f k x0.1 x0.2
noncomputable abbrev FX35 (k:Nat) (x0:TQ):Option R35:=B35 (FX21 k) (FX49 k) (FX52 k) x0
noncomputable def GX32Addl0:Nat→(List TQ)→(List TQ)→Int→Int→TQ→Option R32Add
 |0,_,_,_,_,_=>none
 |k+1,x1,x11,x12,x13,x4=>B32Addl0 (GX32Addl0 k) (FX22 k) (FX33 k) (FX35 k) x1 x11 x12 x13 x4
noncomputable abbrev FX32Add (k:Nat) (x1:(List TQ)):Option R32Add:=B32Add (GX32Addl0 k) x1
noncomputable abbrev FX13 (k:Nat) (x0:TQ) (x1:TQ):Option R13:=B13 (FX32Add k) x0 x1
noncomputable abbrev FX36 (k:Nat) (x0:TI):Option R36:=B36 x0
noncomputable abbrev FX62 (k:Nat) (x0:TI) (x1:TI):Option R62:=All.exact_IntDivMod.f k x0.1 x0.2 x1.1 x1.2
noncomputable abbrev FX37 (k:Nat) (x0:TQ):Option R37:=B37 (FX62 k) x0
noncomputable abbrev FX14 (k:Nat) (x0:TQ):Option R14:=B14 (FX35 k) (FX36 k) (FX37 k) x0
noncomputable abbrev FX15 (k:Nat) (x0:TQ):Option R15:=B15 (FX20 k) (FX34 k) (FX35 k) (FX36 k) (FX37 k) x0
noncomputable abbrev FX39 (k:Nat) (x0:TQ):Option R39:=B39 x0
noncomputable abbrev FX40 (k:Nat) (x0:TQ):Option R40:=B40 x0
noncomputable abbrev FX63 (k:Nat) (x0:ByteArray):Option R63:=All.exact_NatBits.f x0
noncomputable abbrev FX41 (k:Nat) (x0:ByteArray) (x1:Int):Option R41:=B41 (FX63 k) x0 x1
noncomputable abbrev FX65 (k:Nat) (x0:ByteArray) (x1:Int):Option R65:=All.exact_NatPow.f k x0 x1
noncomputable abbrev FX64 (k:Nat) (x0:TI) (x1:Int):Option R64:=B64 (FX54 k) (FX65 k) x0 x1
noncomputable abbrev FX42 (k:Nat) (x0:TQ) (x1:Int):Option R42:=B42 (FX64 k) (FX65 k) x0 x1
noncomputable abbrev FX38 (k:Nat) (x0:(List TQ)) (y500:Int):Option R38:=B38 (FX39 k) (FX40 k) (FX41 k) (FX42 k) x0 y500
noncomputable def GX32Powl0:Nat→(List TQ)→(List TQ)→Int→Int→Int→TQ→Option R32Pow
 |0,_,_,_,_,_,_=>none
 |k+1,x1,x11,x12,x13,y100,x4=>B32Powl0 (GX32Powl0 k) (FX22 k) (FX35 k) (FX38 k) x1 x11 x12 x13 y100 x4
noncomputable abbrev FX32Pow (k:Nat) (x1:(List TQ)) (y100:Int):Option R32Pow:=B32Pow (GX32Powl0 k) x1 y100
noncomputable abbrev FX16 (k:Nat) (x0:TQ) (x1:Int):Option R16:=B16 (FX32Pow k) x0 x1
noncomputable abbrev FX92 (k:Nat) (x0:Int):Option R92:=All.exact_NatTwo.f x0
noncomputable abbrev FX81 (k:Nat) (x0:ByteArray) (x1:Int):Option R81:=All.exact_NatRoot.f k x0 x1
noncomputable abbrev FX66 (k:Nat) (x0:TI):Option R66:=All.exact_IntSqrt.f k x0.1 x0.2
noncomputable abbrev FX67 (k:Nat) (x0:Int):Option R67:=B67 (FX24 k) (FX48 k) x0
noncomputable abbrev FX43 (k:Nat) (x0:TQ):Option R43:=B43 (FX66 k) (FX67 k) x0
noncomputable abbrev FX17 (k:Nat) (x0:TQ):Option R17:=B17 (FX35 k) (FX43 k) x0
noncomputable abbrev FX93 (k:Nat) (x0:ByteArray) (x1:Int):Option R93:=B93 (FX98 k) x0 x1
noncomputable def GX82l0:Nat→Option R82
 |0=>none
 |k+1=>B82l0
noncomputable abbrev FX82 (k:Nat) (x0:ByteArray) (x1:ByteArray):Option R82:=B82 (FX93 k) x0 x1
noncomputable abbrev FX68 (k:Nat) (x0:ByteArray) (x1:ByteArray):Option R68:=B68 (FX82 k) x0 x1
noncomputable abbrev FX44 (k:Nat) (x0:ByteArray) (x1:ByteArray):Option R44:=B44 (FX68 k) x0 x1
noncomputable abbrev FX71 (k:Nat) (x0:ByteArray):Option R71:=All.natural_bounded.f x0
noncomputable abbrev FX46 (k:Nat) (x0:ByteArray):Option R46:=All.natural_Parse.f k x0
noncomputable abbrev FX45 (k:Nat) (x0:ByteArray):Option R45:=All.integer_Parse.f k x0
noncomputable abbrev FX18 (k:Nat) (x0:ByteArray):Option R18:=B18 (FX35 k) (FX44 k) (FX45 k) (FX46 k) x0
noncomputable abbrev FX4 (k:Nat):Option R4:=B4 (FX5 k) (FX9 k) (FX13 k) (FX14 k) (FX15 k) (FX16 k) (FX17 k) (FX18 k) (FX19 k)
noncomputable def GX6l0:Nat→Int→Int→TI→TI→TQ→(List TI)→Option R6
 |0,_,_,_,_,_,_=>none
 |k+1,x12,x13,x2,x3,x4,x11=>B6l0 (GX6l0 k) (FX21 k) (FX22 k) (FX23 k) x12 x13 x2 x3 x4 x11
noncomputable abbrev FX6 (k:Nat) (x0:TI) (x1:TI):Option R6:=B6 (GX6l0 k) x0 x1
noncomputable abbrev FX7 (k:Nat) (x0:TI):Option R7:=B7 (FX21 k) (FX24 k) x0
noncomputable abbrev FX55 (k:Nat) (x0:ByteArray):Option R55:=All.galoisref01_Fits.f x0
noncomputable abbrev FX28 (k:Nat) (x0:TI):Option R28:=All.galoisref02_Fits.f x0.1 x0.2
noncomputable abbrev FX25 (k:Nat) (x0:TQ):Option R25:=B25 (FX28 k) (FX55 k) x0
noncomputable abbrev FX8 (k:Nat) (x0:TQ) (x1:Int) (x2:Int) (x3:TQ):Option R8:=B8 (FX25 k) x0 x1 x2 x3
noncomputable abbrev FX56 (k:Nat) (x0:ByteArray):Option R56:=All.galoisref01_Valid.f x0
noncomputable abbrev FX27 (k:Nat) (x0:TI):Option R27:=All.galoisref02_Valid.f x0.1 x0.2
noncomputable abbrev FX10 (k:Nat) (x0:TI):Option R10:=All.galoisref02_Check.f x0.1 x0.2
noncomputable abbrev FX11 (k:Nat) (x0:TI):Option R11:=B11 x0
end Go.Proofs.YtjllholdppjllaaV
set_option maxRecDepth 10000
namespace Go.Proofs.YtjllholdppjllaaV
open Go Go.RowKit Ytjllholdppjllaa YtjllholdppjllaaE YtjllholdppjllaaW.PrintWords YtjllholdppjllaaW.PrintLast YtjllholdppjllaaW.PrintMore
theorem EOK:EnvOk Try.prog E0:=⟨by kernel_rfl,by kernel_rfl,by kernel_rfl⟩
theorem HM:Try.prog.follows .mixedOrders=true:=Try.checked.mixed
section
variable {P:Program} {f:Nat}
theorem ct_one {k:IntKind} {x:Int} {r:V} (h:∀w,CallSem P f #[.int k x] w fun v w'=>w'=w∧∀bl φ,RepV w bl φ r v):Ct P f [.a (.v (.it k) x)] [] r []:=by
 refine⟨(fun q hq=>nomatch hq),fun w0 bl0 φ0 vs _ hm hr=>?_⟩
 cases hr with
 |cons h1 hr=>
  cases hr with
  |nil=>
   rw [rep_it.1 h1]
   exact(h w0).mono fun v w' ⟨e,hv⟩=>⟨φ0,by rw [e];exact Step.refl hm,by rw [e];exact hv _ _⟩
theorem ct_three {k1 k2 k3:IntKind} {x y z:Int} {r:V} (h:∀w,CallSem P f #[.int k1 x, .int k2 y, .int k3 z] w fun v w'=>w'=w∧∀bl φ,RepV w bl φ r v):Ct P f [.a (.v (.it k1) x), .a (.v (.it k2) y), .a (.v (.it k3) z)] [] r []:=by
 refine⟨(fun q hq=>nomatch hq),fun w0 bl0 φ0 vs _ hm hr=>?_⟩
 cases hr with
 |cons h1 hr=>
  cases hr with
  |cons h2 hr=>
   cases hr with
   |cons h3 hr=>
    cases hr with
    |nil=>
     rw [rep_it.1 h1,rep_it.1 h2,rep_it.1 h3]
     exact(h w0).mono fun v w' ⟨e,hv⟩=>⟨φ0,by rw [e];exact Step.refl hm,by rw [e];exact hv _ _⟩
theorem sem_enter {fn:Func} {c:Code} (hf:P.funcs[f]?=some fn) (hname:(fn.name== "runtime.NumGoroutine")=false) (hb:fn.body=some c) {args:Array Value} {w:World} {Q:Value→World→Prop} (h:Calls P f args w fun e w'=>∃v,e= .returned v∧Q v w'):CallSem P f args w Q:=
 Or.inl ⟨by simp only [callFunc,Sem.run_bind,run_program,Result.andThen_ok,hf,hname,hb,Option.isNone_some,Bool.false_eq_true,if_false,Sem.run_pure],h⟩
end
theorem ok83 (k:Nat):FeOk Try.prog (fe83 (FX83 k)):=by
 rintro⟨⟨x,y,c,⟨⟩⟩,⟨⟩⟩ o h v hv
 replace h:All.bits_Add64.f x y c=some o:=h
 cases hv
 unfold All.bits_Add64.f at h
 by_cases hc:0≤x∧0≤y∧0≤c∧c≤1
 ·rw [if_pos hc]at h
  cases h
  refine ct_three fun w=>Or.inr ⟨_,w,?_,rfl,fun bl φ=>⟨_,rfl, .cons (rep_it.2 rfl) (.cons (rep_it.2 rfl) .nil)⟩⟩
  show(callFunc 83 #[.int .u64 x, .int .u64 y, .int .u64 c]).run _ w=_
  rw [run_callFunc_extern Try.func83 (by kernel_rfl) (by kernel_rfl) (by kernel_rfl) (by kernel_rfl),run_add64 x y c hc.1 hc.2.1 hc.2.2.1 hc.2.2.2]
  rfl
 ·rw [if_neg hc]at h;cases h
theorem sub64_at (x y c:Int) (hx:0≤x) (hy:0≤y) (hc0:0≤c) (hc:c≤1) (w:World):
  (callFunc 90 #[.int .u64 x, .int .u64 y, .int .u64 c]).run Try.prog w= .ok (.value (.tuple #[.int .u64 ((x-y-c)%18446744073709551616), .int .u64 (if x<y+c then 1 else 0)])) w∨¬y≤18446744073709551615:=by
 by_cases hym:y≤18446744073709551615
 ·refine Or.inl ?_
  obtain⟨X,rfl⟩:=Int.eq_ofNat_of_zero_le hx
  obtain⟨Y,rfl⟩:=Int.eq_ofNat_of_zero_le hy
  obtain⟨C,rfl⟩:=Int.eq_ofNat_of_zero_le hc0
  rw [run_callFunc_extern Try.func90 (by kernel_rfl) (by kernel_rfl) (by kernel_rfl) (by kernel_rfl),run_sub64 X Y C (by omega)]
  have e1:(((X+18446744073709551616-Y-C)%18446744073709551616:Nat):Int)=((X:Int)-Y-C)%18446744073709551616:=by omega
  have e2:((if X<Y+C then 1 else 0:Nat):Int)=if(X:Int)<Y+C then 1 else 0:=by split<;>split<;>omega
  rw [e1,e2]
  rfl
 ·exact Or.inr hym
theorem ok90 (k:Nat):FeOk Try.prog (fe90 (FX90 k)):=by
 rintro⟨⟨x,y,c,⟨⟩⟩,⟨⟩⟩ o h v hv
 replace h:All.bits_Sub64.f x y c=some o:=h
 cases hv
 unfold All.bits_Sub64.f at h
 split at h
 ·rename_i hc
  cases h
  refine ct_three fun w=>Or.inr ⟨_,w,?_,rfl,fun bl φ=>⟨_,rfl, .cons (rep_it.2 rfl) (.cons (rep_it.2 rfl) .nil)⟩⟩
  exact(sub64_at x y c hc.1 hc.2.1 hc.2.2.2.1 hc.2.2.2.2 w).resolve_right fun h=>h hc.2.2.1
 ·cases h
theorem ok80 (k:Nat):FeOk Try.prog (fe80 (FX80 k)):=by
 rintro⟨⟨x,⟨⟩⟩,⟨⟩⟩ o h v hv
 replace h:All.bits_Len8.f x=some o:=h
 cases hv
 unfold All.bits_Len8.f at h
 split at h
 ·rename_i hc
  cases h
  refine ct_one fun w=>sem_enter (c:=cd80) Try.func80 (by kernel_rfl) (by kernel_rfl) ((Go.Proofs.YtjllholdppjllaaX.len8_says x w hc.1 hc.2).mono ?_)
  rintro e w' ⟨rfl,rfl⟩
  exact⟨_,rfl,rfl,fun bl φ=>rep_it.2 rfl⟩
 ·cases h
theorem ok97 (k:Nat):FeOk Try.prog (fe97 (FX97 k)):=by
 rintro⟨⟨x,⟨⟩⟩,⟨⟩⟩ o h v hv
 replace h:All.bits_Len64.f x=some o:=h
 cases hv
 unfold All.bits_Len64.f at h
 split at h
 ·rename_i hc
  cases h
  refine ct_one fun w=>sem_enter (c:=cd97) Try.func97 (by kernel_rfl) (by kernel_rfl) ((Go.Proofs.YtjllholdppjllaaX.len64_says x w hc.1 hc.2).mono ?_)
  rintro e w' ⟨rfl,rfl⟩
  exact⟨_,rfl,rfl,fun bl φ=>rep_it.2 rfl⟩
 ·cases h
theorem take_leaf {l:List Int} {x:Int} (h0:0≤x) (h1:x≤l.length):(((l.take x.toNat).length:Int),l.take x.toNat++l.drop (l.take x.toNat).length)=(x,l):=by
 have e:(l.take x.toNat).length=x.toNat:=by rw [List.length_take];omega
 rw [e,List.take_append_drop,Int.toNat_of_nonneg h0]
theorem trimV_eq:∀(k:Nat) (l:List Int),All.galoisref01_trimV.f k l=All.galoisref01_trim.f k l
 |0,l=>rfl
 |k+1,l=>by
  have ih:=trimV_eq k
  show All.galoisref01_trimV.l0 (k+1) l=All.galoisref01_trim.l0 (k+1) l
  rw [All.galoisref01_trimV.l0,All.galoisref01_trim.l0]
  have ih':∀l,All.galoisref01_trimV.l0 k l=All.galoisref01_trim.l0 k l:=ih
  simp only [ih']
noncomputable abbrev GX84l0 (k:Nat) (x3:Int) (y0:List Int):Option R84:=(All.exact_trim.l0 k y0 x3).bind fun r=>some ((r.length:Int),r++y0.drop r.length)
theorem b84l0 (k:Nat) (x3:Int) (y0:List Int):LeO (GX84l0 (k+1) x3 y0) (B84l0 (GX84l0 k) x3 y0):=by
 unfold GX84l0
 rw [All.exact_trim.l0]
 unfold B84l0
 simp only [ite_bind_,bind_some_,Option.bind_none]
 repeat' first
 | (with_reducible exact LeO.none _)
 | (with_reducible exact LeO.refl _)
 | (with_reducible refine LeO.posR (by with_reducible assumption) ?_)
 | (with_reducible refine LeO.negR (by with_reducible assumption) ?_)
 | (with_reducible refine LeO.iteL (fun _=>?_) (fun _=>?_))
 | (refine LeO.posR (by first|decide|exact Int.le_refl _|omega) ?_)
 | (rw [take_leaf (by assumption) (by assumption)])
theorem b84 (k:Nat) (y0:List Int):LeO (FX84 k y0) (B84 (GX84l0 k) y0):=LeO.refl _
noncomputable abbrev GX76l0 (k:Nat) (x0:Int) (y0:List Int):Option R76:=if 0≤x0∧x0≤y0.length then(All.galoisref01_trim.l0 k (y0.take x0.toNat)).bind fun r=>some ((r.length:Int),r++y0.drop r.length)else none
theorem rd_take {l:List Int} {x i:Int} (h0:0≤i) (h:i<x):rd (l.take x.toNat) i=rd l i:=by
 unfold rd
 rw [List.getD_eq_getElem?_getD,List.getD_eq_getElem?_getD,List.getElem?_take_of_lt (by omega)]
theorem b76l0 (k:Nat) (x0:Int) (y0:List Int):LeO (GX76l0 (k+1) x0 y0) (B76l0 (GX76l0 k) x0 y0):=by
 unfold GX76l0
 refine LeO.iteL (fun hx=>?_) (fun _=>LeO.none _)
 have e:(((y0.take x0.toNat).length:Nat):Int)=x0:=by rw [List.length_take];omega
 rw [All.galoisref01_trim.l0]
 unfold B76l0
 simp only [ite_bind_,bind_some_,Option.bind_none,e,Int.sub_zero,Int.zero_add]
 refine LeO.iteL (fun h1=>LeO.posR h1 ?_) (fun h1=>LeO.negR h1 ?_)
 ·refine LeO.iteL (fun h2=>LeO.posR h2 ?_) (fun _=>LeO.none _)
  refine LeO.iteL (fun h3=>LeO.posR h3 ?_) (fun _=>LeO.none _)
  rw [rd_take h2 h3]
  refine LeO.iteL (fun h4=>LeO.posR h4 ?_) (fun h4=>LeO.negR h4 ?_)
  ·refine LeO.iteL (fun h5=>?_) (fun _=>LeO.none _)
   refine LeO.posR (Int.le_refl _) (LeO.posR h2 (LeO.posR h5 (LeO.posR (Int.le_refl _) (LeO.posR ⟨h2,by omega⟩ ?_))))
   rw [List.take_take,Nat.min_eq_left (by omega)]
   exact LeO.refl _
  ·have e2:=take_leaf hx.1 hx.2;rw [e]at e2;rw [e2];exact LeO.refl _
 ·have e2:=take_leaf hx.1 hx.2;rw [e]at e2;rw [e2];exact LeO.refl _
theorem b76 (k:Nat) (y0:List Int):LeO (FX76 k y0) (B76 (GX76l0 k) y0):=by
 unfold FX76 B76 GX76l0
 refine LeO.posR ⟨by omega,Int.le_refl _⟩ ?_
 rw [Int.toNat_natCast,List.take_length]
 exact LeO.refl _
noncomputable abbrev GX58l0 (k:Nat) (x0:Int) (x1:List Int) (x5:Int) (y0:List Int):Option R58:=if 0≤x0∧x0≤y0.length then(All.galoisref01_below.l0 k (y0.take x0.toNat) x1 x5).bind fun r=>some (r,y0)else none
theorem b58l0 (k:Nat) (x0:Int) (x1:List Int) (x5:Int) (y0:List Int):LeO (GX58l0 (k+1) x0 x1 x5 y0) (B58l0 (GX58l0 k) x0 x1 x5 y0):=by
 unfold GX58l0
 refine LeO.iteL (fun hx=>?_) (fun _=>LeO.none _)
 have e:(((y0.take x0.toNat).length:Nat):Int)=x0:=by rw [List.length_take];omega
 rw [All.galoisref01_below.l0]
 unfold B58l0
 simp only [ite_bind_,bind_some_,Option.bind_none,e,Int.sub_zero,Int.zero_add,ite_not,ne_eq]
 refine LeO.iteL (fun h1=>LeO.posR h1 ?_) (fun h1=>LeO.negR h1 (LeO.refl _))
 refine LeO.iteL (fun h2=>LeO.posR h2 ?_) (fun _=>LeO.none _)
 refine LeO.iteL (fun h3=>LeO.posR h3 (LeO.posR h2 ?_)) (fun _=>LeO.none _)
 refine LeO.iteL (fun h4=>LeO.posR h4 ?_) (fun _=>LeO.none _)
 rw [rd_take h2 h3]
 refine LeO.iteL (fun h5=>LeO.posR h5 (LeO.posR hx (LeO.refl _))) (fun h5=>LeO.negR h5 ?_)
 exact LeO.posR h2 (LeO.posR h3 (LeO.posR h2 (LeO.posR h4 (LeO.refl _))))
theorem trim_pre:∀(k:Nat) (l r:List Int),All.galoisref01_trim.l0 k l=some r→r++l.drop r.length=l
 |0,l,r,h=>by cases h
 |k+1,l,r,h=>by
  rw [All.galoisref01_trim.l0]at h
  split at h
  ·split at h
   ·split at h
    ·split at h
     ·split at h
      ·rename_i h1 _ _ h2
       have ih:=trim_pre k _ _ h
       have hl:r.length≤(l.take (wrap64 ((l.length:Int)-1)).toNat).length:=by
        have:=congrArg List.length ih
        rw [List.length_append]at this
        omega
       have e:l=l.take (wrap64 ((l.length:Int)-1)).toNat++l.drop (wrap64 ((l.length:Int)-1)).toNat:=(List.take_append_drop _ _).symm
       rw [e,List.drop_append_of_le_length hl,←List.append_assoc]
       rw [ih]
      ·cases h
     ·cases h;rw [List.drop_length,List.append_nil]
    ·cases h
   ·cases h
  ·cases h;rw [List.drop_length,List.append_nil]
theorem b58 (k:Nat) (x1:List Int) (y0:List Int):LeO (FX58 k x1 y0) (B58 (GX58l0 k) (FX76 k) x1 y0):=by
 unfold FX58 B58 FX76 GX58l0 All.galoisref01_below.f
 simp only [trimV_eq,bind_assoc_,bind_some_,ite_bind_,Int.sub_zero,ite_not,ne_eq]
 refine LeO.bindL fun r hr=>LeO.bindR hr ?_
 have e:=trim_pre k y0 r hr
 have hl:(r.length:Int)≤y0.length:=by
  have:=congrArg List.length e
  rw [List.length_append]at this
  omega
 have et:y0.take r.length=r:=by
  have:=congrArg (List.take r.length) e
  rwa [List.take_left,eq_comm]at this
 rw [e]
 refine LeO.iteL (fun h1=>LeO.posR h1 (LeO.posR ⟨by omega,hl⟩ ?_)) (fun h1=>LeO.negR h1 (LeO.refl _))
 rw [Int.toNat_natCast,et]
 exact LeO.refl _
theorem ok98 (k:Nat):FeOk Try.prog (fe98 (FX98 k)):=by
 rintro⟨⟨s,c,⟨⟩⟩,⟨⟩⟩ o h v hv
 replace h:some (Lib.indexByte s.data.toList c.toNat.toUInt8)=some o:=h
 cases hv
 cases h
 refine⟨(fun q hq=>nomatch hq),fun w0 bl0 φ0 vs _ hm hr=>?_⟩
 cases hr with
 |cons h1 hr=>
  cases hr with
  |cons h2 hr=>
   cases hr with
   |nil=>
    obtain⟨cs,e1,e2⟩:=h1
    have e1:cs=[.string s]:=e1
    subst e1
    cases e2
    rw [rep_it.1 h2]
    refine Or.inr ⟨_,w0,?_,φ0,Step.refl hm,rep_it.2 rfl⟩
    show(callFunc 98 #[.string s, .int .u8 c]).run _ w0=_
    rw [run_callFunc_extern Try.func98 (by kernel_rfl) (by kernel_rfl) (by kernel_rfl) (by kernel_rfl),Lib.run_indexByteString s c w0]
    rfl
end Go.Proofs.YtjllholdppjllaaV
namespace Go.Proofs.Ytjllholdppjllaa.All
open YtjllholdppjllaaX
open Go.RowKit YtjllholdppjllaaW.PrintWords YtjllholdppjllaaW.PrintLast YtjllholdppjllaaW.PrintMore
attribute [local go_sem] max2_int min2_int max_two min_two max_three min_three max_four min_four
theorem info5:(Try.prog.info? 5).map (fun i=>(i.zero,i.size,i.bytes))=some (some (.int .u8 0),1,1):=by kernel_rfl
theorem natural_Of.bytes_len (a:Int) (k:Nat) (h:k≤8):(natural_Of.bytes a k).length=8:=by simp [natural_Of.bytes];omega
theorem natural_Of.bytes_set (a:Int) (k:Nat) (h:k<8):(natural_Of.bytes a k).set k (natural_Of.byte a k)=natural_Of.bytes a (k+1):=by
 unfold natural_Of.bytes
 rw [List.set_append_right _ _ (by simp)]
 simp only [List.length_map,List.length_range,Nat.sub_self,List.range_succ,List.map_append,List.map_cons,List.map_nil,List.append_assoc]
 congr 1
 obtain⟨m,hm⟩:∃m,8-k=m+1:=⟨7-k,by omega⟩
 rw [hm,show 8-(k+1)=m by omega,List.replicate_succ]
 rfl
theorem natural_Of.made (w:World):Kd.R (Kd.int .u8) 105 (w.alloc (.cells #[.int .u8 0, .int .u8 0, .int .u8 0, .int .u8 0, .int .u8 0, .int .u8 0, .int .u8 0, .int .u8 0] 105)) w.heap.size (fun _=>True) (.slice (some ⟨w.heap.size,0,none⟩) 8 8) (List.replicate 8 0):=
 Kd.R_of_own (own_lit w w.heap.size 105 .u8 (List.replicate 8 0) (Nat.le_refl _) (by simp)) (fun _ _=>trivial)
theorem natural_Of.info5s:(Try.prog.info? 5).map (·.size)=some 1:=by kernel_rfl
theorem natural_Of.reads {w:World} {base g:Nat} {ok:Nat→Prop} {a:Int} (h:Kd.R (Kd.int .u8) 105 w base ok (.slice (some ⟨g,0,none⟩) 8 8) (natural_Of.bytes a 8)):Kd.C (Kd.int .u8) w (some ⟨g,0,none⟩) 8 (natural_Of.bytes a 8):=by
 have:=(Kd.R_reads' h).2.2
 rwa [natural_Of.bytes_len a 8 (Nat.le_refl _)]at this
theorem natural_Of.copied {w:World} {base:Nat} {ok:Nat→Prop} {v:Value} {a:Int} (h:Kd.R (Kd.int .u8) 5 w base ok v ((natural_Of.bytes a 8).take (min 8 (List.replicate 8 (0:Int)).length)++(List.replicate 8 (0:Int)).drop (min 8 (List.replicate 8 (0:Int)).length))):Kd.R (Kd.int .u8) 5 w base ok v (natural_Of.bytes a 8):=by
 rw [List.take_of_length_le (by rw [natural_Of.bytes_len a 8 (Nat.le_refl _)];simp),List.drop_of_length_le (by simp),List.append_nil]at h
 exact h
theorem natural_Of.then_ {w w1 w2:World} (h:Below w.heap.size w w1) (k:Below w1.heap.size w1 w2):Below w.heap.size w w2:=below_then h h.size k
theorem natural_Of.drop1 (l:List Int) (h:¬l.length=0) (h0:rd l 0=0):(l.drop 1).dropWhile (· ==0)=l.dropWhile (· ==0):=by
 cases l with
 |nil=>exact absurd rfl h
 |cons x l=>
  have:x=0:=h0
  subst this
  simp
theorem natural_Of.keep (l:List Int) (h0:¬rd l 0=0):l.dropWhile (· ==0)=l:=by
 cases l with
 |nil=>rfl
 |cons x l=>
  have:¬x=0:=h0
  simp [this]
theorem natural_Of.add0 (a:Addr):a.add 0=a:=by
 unfold Addr.add
 split<;>simp_all
set_option maxHeartbeats 2000000 in
set_option maxRecDepth 100000 in
theorem natural_Of.calls (a0:Int) (r:ByteArray) (w:World) (h:natural_Of.f a0=some r):
  Calls Try.prog 70 #[.int .u64 a0] w fun e w'=>e= .returned (.string r)∧Below w.heap.size w w':=by
 unfold natural_Of.f at h
 by_cases c:0≤a0∧a0≤18446744073709551615
 case neg=>
  rw [if_neg c]at h
  exact absurd h (by simp)
 rw [if_pos c]at h
 obtain rfl:=Option.some.inj h
 clear h
 obtain⟨h0,h1⟩:=c
 go_enter Try.func70,Try.ntmps70
 go_wp2
 have HR0:=Aside0.mk (natural_Of.made w)
 have HB0:=Aside0.mk (below_alloc (Below.refl w.heap.size w) (.cells #[.int .u8 0, .int .u8 0, .int .u8 0, .int .u8 0, .int .u8 0, .int .u8 0, .int .u8 0, .int .u8 0] 105))
 go_loopw [6] (fun i wr=>∃k:Nat,k≤8∧i= .int .i64 k∧Aside0 (Kd.R (Kd.int .u8) 105 wr w.heap.size (fun _=>True) (.slice (some ⟨w.heap.size,0,none⟩) 8 8) (natural_Of.bytes a0 k))∧Aside0 (Below w.heap.size w wr)) (fun i _=>8-(intOf i).toNat)
 case atStart=>exact⟨0,by omega,rfl,HR0,HB0⟩
 case round=>
  obtain⟨k,hk,rfl,HR,HB⟩:=hrel
  clear HR0 HB0
  by_cases hlt:k<8
  ·have e1:IntKind.i64.wrap (8*(k:Int))=8*(k:Int):=IntWalk.i64_in _ (by omega)
   have e2:IntKind.i64.wrap (56-8*(k:Int))=56-8*(k:Int):=IntWalk.i64_in _ (by omega)
   have e3:(0:Int)≤56-8*(k:Int):=by omega
   obtain⟨hc,hf⟩:=Kd.R_celln (0:Int) HR.out (k:Int) (by omega) (by omega)
   (try simp only [Int.toNat_natCast]at hc hf)
   go_wp2
   go_roundw
   case rel=>
    have hp:=(Kd.R_putg HR.out (k:Int) (natural_Of.byte a0 k)).1
    rw [Int.toNat_natCast,natural_Of.bytes_set a0 k hlt]at hp
    exact⟨k+1,by omega,by go_num,⟨hp⟩,⟨below_set HB.out (Nat.le_refl _)⟩⟩
   case measure=>simp [intOf];omega
  ·obtain rfl:k=8:=by omega
   clear hlt hk
   go_wp2_with (first
    | ((with_reducible refine gate_dst (N:=18) rfl ?_);refine Kd.R_make (Kd.int .u8) _ 5 rfl (N:=18) rfl 98 _ _ rfl 8 rfl rfl Try.underlying98 (.int .u8 0) 1 info5 rfl (by decide) (by omega) 0 (ok:=fun _=>True) (okp:=fun _=>True) rfl (fun _ hk=>hk) trivial (by omega) (by decide) (Below.refl _ _) (Nat.le_refl _) ?_;intro v1 w1 ho hb hg hn;have HO:=Aside0.mk ho;have HG:=Aside0.mk hb;have HC:=Aside0.mk (natural_Of.reads (Kd.R_below HR.out hb));clear ho hb hg hn)
    | ((with_reducible refine gate_builtin (b:= .copy) rfl ?_);refine Kd.R_copy (0:Int) wr.heap.size rfl _ _ 98 98 5 rfl Try.underlying98 natural_Of.info5s v1 (List.replicate 8 0) (natural_Of.bytes a0 8) (some ⟨w.heap.size,0,none⟩) 8 8 (fun _=>True) rfl rfl HO.out HC.out HG.out HG.out.size ?_;intro w2 ho hb hg;have HO2:=Aside0.mk (natural_Of.copied ho);have HB2:=Aside0.mk (natural_Of.then_ HB.out hb);clear ho hb hg HR HB HO HG HC))
   obtain⟨A,cp,hv,hcp,hC⟩:=Kd.Q_reads (Kd.Q_of_R HO2.out)
   have HQ:=Aside0.mk (Kd.Q_of_R HO2.out)
   clear HO2
   rw [natural_Of.bytes_len a0 8 (Nat.le_refl _)]at hv
   subst hv
   have hl8:=natural_Of.bytes_len a0 8 (Nat.le_refl _)
   have HQ':Aside0 (Kd.Q (Kd.int .u8) 5 w2 wr.heap.size (fun _=>True) (.slice A (natural_Of.bytes a0 8).length cp) (natural_Of.bytes a0 8)):=⟨by rw [hl8];exact HQ.out⟩
   have HL:=Aside0.mk hl8
   clear hl8 hC hcp HQ
   (try simp only [Act.put,List.setIfInBounds_toArray,List.set_cons_zero,List.set_cons_succ])
   go_loop [5] (fun v=>∃(l:List Int) (A:Option Addr) (c:Nat),v= .slice A l.length c∧Aside0 (Kd.Q (Kd.int .u8) 5 w2 wr.heap.size (fun _=>True) (.slice A l.length c) l)∧Aside0 (l.dropWhile (· ==0)=(natural_Of.bytes a0 8).dropWhile (· ==0))) (fun v=>natural_Of.len v)
   case atStart=>exact⟨natural_Of.bytes a0 8,A,cp,by rw [HL.out],HQ',⟨rfl⟩⟩
   case round=>
    obtain⟨l,A1,c1,rfl,HQ1,HD⟩:=hrel
    clear HQ' HL
    obtain⟨hn,hcp,hC⟩:=Kd.Q_reads' HQ1.out
    have HC:=Aside0.mk hC
    clear hC hn
    by_cases hz:l.length=0
    ·have hnil:l=[]:=List.eq_nil_of_length_eq_zero hz
     have hstr:=Kd.C_string (P:=Try.prog) Try.underlying98 Try.underlying5 Try.underlying23 (c:=c1) HC.out
     have c1b:decide (0<l.length)=false:=by rw [hz];rfl
     have HN:=Aside0.mk hnil
     clear hz hnil hcp
     go_wp2
     go_ret
     refine⟨?_,HB2.out⟩
     rw [←HD.out,HN.out]
     rfl
    ·obtain⟨ad,rfl,hx⟩:=Kd.at_int HC.out 0 (by omega) (by omega)
     have hx':w2.cell? ad=some (.int .u8 (rd l 0)):=by rw [←natural_Of.add0 ad];exact hx
     clear hx
     have c1b:decide (0<l.length)=true:=by simp;omega
     have c2b:decide ((0:Int)<(l.length:Int))=true:=by simp;omega
     have c4b:(0<l.length)=True:=eq_true (by omega)
     have c5b:((0:Int)<(l.length:Int))=True:=eq_true (by omega)
     have HZ:=Aside0.mk hz
     by_cases hx0:rd l 0=0
     ·have c3b:(rd l 0==0)=true:=beq_iff_eq.mpr hx0
      have HX:=Aside0.mk hx0
      obtain⟨i0,hi0,_,hsz,_⟩:=info_parts info5
      have hcut:=cut_from (P:=Try.prog) 98 5 .i64 Try.underlying98 hi0 1 hsz (some ad) l.length c1 1 (by omega) (by omega)
      have hq:=Kd.Q_drop (k:=1) HQ1.out (by omega)
      obtain⟨A2,hA2⟩:∃A2,A2=(if c1=1 then some ad else(some ad:Option Addr).map (·.add (1*1))):=⟨_,rfl⟩
      have hl2:(l.drop 1).length=l.length-1:=by simp
      have hq2:Kd.Q (Kd.int .u8) 5 w2 wr.heap.size (fun _=>True) (.slice A2 (l.drop 1).length (c1-1)) (l.drop 1):=by rw [hl2,hA2];exact hq
      obtain⟨l2,hl2'⟩:∃l2,l2=l.drop 1:=⟨_,rfl⟩
      obtain⟨c2,hc2⟩:∃c2,c2=c1-1:=⟨_,rfl⟩
      have hcut2:∀W:World,(Instr.slice 98 (.slice (some ad) l.length c1) (some (.int .i64 1)) none none).run Try.prog W= .ok (.slice A2 l2.length c2) W:=by
       intro W
       rw [hcut W,hl2',hl2,hc2,hA2]
       rfl
      rw [←hl2',←hc2]at hq2
      have HQ2:=Aside0.mk hq2
      have HL2:=Aside0.mk hl2'
      clear hcut hq hA2 hl2 hq2 hl2' hc2 hx0 hi0 hsz hcp hz
      go_wp2
      go_round
      case rel=>
       refine⟨l2,A2,c2,by first|rfl|exact⟨rfl,rfl,rfl⟩,HQ2,⟨?_⟩⟩
       rw [←HD.out,HL2.out]
       exact natural_Of.drop1 l HZ.out HX.out
      case measure=>
       show natural_Of.len (.slice A2 l2.length c2)<natural_Of.len (.slice (some ad) l.length c1)
       rw [HL2.out]
       have:=HZ.out
       simp [natural_Of.len]
       omega
     ·have c3b:(rd l 0==0)=false:=beq_eq_false_iff_ne.mpr hx0
      have HX:=Aside0.mk hx0
      have hstr:=Kd.C_string (P:=Try.prog) Try.underlying98 Try.underlying5 Try.underlying23 (c:=c1) HC.out
      clear hz hcp hx0
      go_wp2
      go_ret
      refine⟨?_,HB2.out⟩
      rw [←HD.out,natural_Of.keep l HX.out]
      rfl
end Go.Proofs.Ytjllholdppjllaa.All
namespace Go.Proofs.YtjllholdppjllaaE
open Go.RowKit
theorem calls_of_ct {P:Program} {f:Nat} {fn:Func} {c:Code} (hf:P.funcs[f]?=some fn) (hname:(fn.name== "runtime.NumGoroutine")=false) (hb:fn.body=some c) {asx:List V} {r:V} {us:Bl} (h:Ct P f asx [] r us) {vs:List Value}
  (hv:∀w bl φ,RepVs w bl φ asx vs) (hr:∀w bl φ v,RepV w bl φ r v→v= .bool true) (w:World):Calls P f vs.toArray w fun e w'=>e= .returned (.bool true)∧Below w.heap.size w w':=by
 have hm:Mem w (lentBo [] (fun _=>⟨0,0,some 0⟩)) (fun _=> .fresh) (fun _=>⟨0,0,some 0⟩) w:=
  ⟨fun n=>trivial,(fun n m h=>by obtain⟨_,_,_,e⟩:=h;cases e),(fun n t l tl _ h=>by cases h),Frame'.refl _ _⟩
 rcases h.2 w (fun _=> .fresh) (fun _=>⟨0,0,some 0⟩) vs (fun n _=>rfl) hm (hv _ _ _)with⟨_,h1⟩| ⟨v,w',h1,_⟩
 ·refine h1.mono fun e w'=>?_
  rintro⟨v,rfl,φ',st,rv⟩
  have fr:=st.mem.fr
  refine⟨by rw [hr _ _ _ _ rv],fr.os,fr.tape,fr.output,fr.size,fun b hb=>fr.block b hb fun o h=>?_⟩
  obtain⟨n,t,l,tl,_,e,_⟩:=h
  cases e
 ·exfalso
  have e:(callFunc f vs.toArray).run P w= .ok (.enter f vs.toArray) w:=by simp only [callFunc,Sem.run_bind,run_program,Result.andThen_ok,hf,hname,hb,Option.isNone_some,Bool.false_eq_true,if_false,Sem.run_pure]
  rw [e]at h1;cases h1
theorem below_frame {w w':World} (h:Below w.heap.size w w'):Frame' w w' (fun _ _=>False):=by
 have hb:∀b,b<w.heap.size→w'.heap[b]?=w.heap[b]?:=h.block
 have hc:∀b o,b<w.heap.size→w'.cell? ⟨b,o,none⟩=w.cell? ⟨b,o,none⟩:=fun b o hl=>by unfold World.cell?;rw [hb b hl]
 exact⟨h.os,h.tape,h.output,h.size,fun b hl _=>hb b hl,fun b o hl _=>hc b o hl,fun b o hs=>by
  have hl:b<w.heap.size:=by
   obtain⟨v,hv⟩:=Option.isSome_iff_exists.1 hs
   exact cell_lt hv
  rw [hc b o hl];exact hs,fun b o hl=>by unfold World.frozen?;rw [hb b hl]⟩
theorem S_below {w0 w w':World} {Bo:Nat→Nat→Prop} {bl:Nat→Blk} {φ:Nat→Addr} (m:Mem w0 Bo bl φ w) (h:Below w.heap.size w w'):Step w0 Bo bl φ w bl φ w':=
 S_gen m (fun _=>False) (fun _ _=>⟨rfl,rfl⟩) (fun _ h=>h.elim) ((below_frame h).ext (fun _ _ _ h=>h.elim) fun _ _ h=>h) (fun n _ hl hs o v hv=>((below_frame h).cell _ _ (cell_lt hv) id).trans hv) (fun _ h=>h.elim) (fun _ _ h=>h.elim) (fun _ _ _ _ h=>h.elim) (m.fr.trans (below_frame h) fun _ _ _ h=>h.elim)
section
variable {w:World} {bl:Nat→Blk} {φ:Nat→Addr}
theorem rep_str {x:ByteArray}:RepV w bl φ (.a (.v .st x)) (.string x):=⟨[.string x],rfl,rfl⟩
theorem rep_bs {x:Bool} {y:ByteArray}:RepV w bl φ (.a (.v (.ag (.pr .bo .st)) (x,y))) (.agg #[.bool x, .string y]):=⟨[.bool x, .string y],⟨[.bool x],[.string y],rfl,rfl,rfl⟩,rfl⟩
theorem rep_true {v:Value} (h:RepV w bl φ (.a (.v .bo true)) v):v= .bool true:=by
 obtain⟨cs,h1,h2⟩:=h
 have h1:cs=[.bool true]:=h1
 subst h1
 have h2:[Value.bool true]=[v]:=h2
 cases h2;rfl
end
end Go.Proofs.YtjllholdppjllaaE
namespace Go.Proofs.YtjllholdppjllaaV
open Go Go.RowKit Ytjllholdppjllaa YtjllholdppjllaaE YtjllholdppjllaaW.PrintWords YtjllholdppjllaaW.PrintLast YtjllholdppjllaaW.PrintMore
theorem ok70 (k:Nat):FeOk Try.prog (fe70 (FX70 k)):=by
 rintro⟨⟨x,⟨⟩⟩,⟨⟩⟩ o h v hv
 replace h:All.natural_Of.f x=some o:=h
 cases hv
 refine⟨(fun q hq=>nomatch hq),fun w0 bl0 φ0 vs _ hm hr=>?_⟩
 cases hr with
 |cons h1 hr=>
  cases hr with
  |nil=>
   rw [rep_it.1 h1]
   refine sem_enter (c:=(Try.f70.body).getD .skip) Try.func70 (by kernel_rfl) (by kernel_rfl) ((All.natural_Of.calls x o w0 h).mono ?_)
   rintro e w' ⟨rfl,hb⟩
   exact⟨_,rfl,φ0,S_below hm hb,rep_str⟩
end Go.Proofs.YtjllholdppjllaaV
set_option maxRecDepth 100000
namespace Go.Proofs.YtjllholdppjllaaV
open Go Go.RowKit Ytjllholdppjllaa YtjllholdppjllaaE YtjllholdppjllaaW.PrintWords YtjllholdppjllaaW.PrintLast YtjllholdppjllaaW.PrintMore
theorem ok84 (k:Nat):FeOk Try.prog (fe84 (FX84 k)):=
 fe_ok EOK HM (es:=fun k=>fes84) (fun k=>fz) (N:=21) (an:=an84) (c:=cd84) (rms:=rm84) (ask:=ask84) (rsk:=rsk84) (enc:=enc84) (dec:=dec84) (tbl:=[p84.getD 0 ⟨0,[], .skip⟩]) (fun s=>rfl) Try.func84 (by kernel_rfl) (by kernel_rfl) (by kernel_rfl) (fun k=>les84 (GX84l0 k))
  (fc ⟨fun s=>rfl,fz⟩) (fun k s0=> .cons (by kernel_rfl) (by kernel_rfl) (fun s r h=>(e84l0 (GX84l0 k) s0 s).trans (b84l0 k s.1.1 s.2.1 r h)) (.nil))
  (F:=fun k s=>FX84 k s.2.1) (fun k s r h=>(e84 (GX84l0 k) s).trans (b84 k s.2.1 r h)) k
noncomputable abbrev GX73l0 (k:Nat) (x0:ByteArray) (x12:Int) (x13:Int) (x3:(List Int)):Option R73:=All.exact_words.l0 k x0 x3 x12 x13
theorem b73l0 (k:Nat) (x0:ByteArray) (x12:Int) (x13:Int) (x3:(List Int)):LeO (All.exact_words.l0 (k+1) x0 x3 x12 x13) (B73l0 (GX73l0 k) (FX84 k) x0 x12 x13 x3):=by rw [All.exact_words.l0];unfold B73l0;(try simp only [GX73l0,FX84,All.integer_zero.f,All.exact_stepAt.f,All.S24.f0,All.S24.f1,All.rd_T24,All.z24]);exact BR
theorem b73 (k:Nat) (x0:ByteArray):LeO (FX73 k x0) (B73 (GX73l0 k) x0):=by
 show LeO (All.exact_words.f k x0) _
 unfold All.exact_words.f;unfold B73;(try simp only [GX73l0,FX84,All.integer_zero.f,All.exact_stepAt.f,All.S24.f0,All.S24.f1,All.rd_T24,All.z24]);exact BR
theorem ok73 (k:Nat):FeOk Try.prog (fe73 (FX73 k)):=
 fe_ok EOK HM (es:=fun k=>fes73 (FX84 k)) (fun k=>fc ⟨ok84 k,fz⟩) (N:=39) (an:=an73) (c:=cd73) (rms:=rm73) (ask:=ask73) (rsk:=rsk73) (enc:=enc73) (dec:=dec73) (tbl:=[p73.getD 0 ⟨0,[], .skip⟩]) (fun s=>rfl) Try.func73 (by kernel_rfl) (by kernel_rfl) (by kernel_rfl) (fun k=>les73 (GX73l0 k))
  (fc ⟨fun s=>rfl,fz⟩) (fun k s0=> .cons (by kernel_rfl) (by kernel_rfl) (fun s r h=>(e73l0 (GX73l0 k) (FX84 k) s0 s).trans (b73l0 k s.1.1 s.1.2.1 s.1.2.2.1 s.2.1 r h)) (.nil))
  (F:=fun k s=>FX73 k s.1.1) (fun k s r h=>(e73 (GX73l0 k) (FX84 k) s).trans (b73 k s.1.1 r h)) k
noncomputable abbrev GX85l0 (k:Nat) (x0:(List Int)) (x1:(List Int)) (x5:Int):Option R85:=All.exact_compareWords.l0 k x0 x1 x5
theorem b85l0 (k:Nat) (x0:(List Int)) (x1:(List Int)) (x5:Int):LeO (All.exact_compareWords.l0 (k+1) x0 x1 x5) (B85l0 (GX85l0 k) x0 x1 x5):=by rw [All.exact_compareWords.l0];unfold B85l0;(try simp only [GX85l0,All.integer_zero.f,All.exact_stepAt.f,All.S24.f0,All.S24.f1,All.rd_T24,All.z24]);exact BR
theorem b85 (k:Nat) (x0:(List Int)) (x1:(List Int)):LeO (FX85 k x0 x1) (B85 (GX85l0 k) x0 x1):=by
 show LeO (All.exact_compareWords.f k x0 x1) _
 unfold All.exact_compareWords.f;unfold B85;(try simp only [GX85l0,All.integer_zero.f,All.exact_stepAt.f,All.S24.f0,All.S24.f1,All.rd_T24,All.z24]);exact BR
theorem ok85 (k:Nat):FeOk Try.prog (fe85 (FX85 k)):=
 fe_ok EOK HM (es:=fun k=>fes85) (fun k=>fz) (N:=41) (an:=an85) (c:=cd85) (rms:=rm85) (ask:=ask85) (rsk:=rsk85) (enc:=enc85) (dec:=dec85) (tbl:=[p85.getD 0 ⟨0,[], .skip⟩]) (fun s=>rfl) Try.func85 (by kernel_rfl) (by kernel_rfl) (by kernel_rfl) (fun k=>les85 (GX85l0 k))
  (fc ⟨fun s=>rfl,fz⟩) (fun k s0=> .cons (by kernel_rfl) (by kernel_rfl) (fun s r h=>(e85l0 (GX85l0 k) s0 s).trans (b85l0 k s.1.1 s.1.2.1 s.1.2.2.1 r h)) (.nil))
  (F:=fun k s=>FX85 k s.1.1 s.1.2.1) (fun k s r h=>(e85 (GX85l0 k) s).trans (b85 k s.1.1 s.1.2.1 r h)) k
theorem b87 (k:Nat) (x0:Int):LeO (FX87 k x0) (B87 (FX97 k) x0):=by
 show LeO (All.bits_LeadingZeros64.f x0) _
 unfold All.bits_LeadingZeros64.f;unfold B87;(try simp only [FX97,All.integer_zero.f,All.exact_stepAt.f,All.S24.f0,All.S24.f1,All.rd_T24,All.z24]);exact BR
theorem ok87 (k:Nat):FeOk Try.prog (fe87 (FX87 k)):=
 fe_ok EOK HM (es:=fun k=>fes87 (FX97 k)) (fun k=>fc ⟨ok97 k,fz⟩) (N:=6) (an:=an87) (c:=cd87) (rms:=rm87) (ask:=ask87) (rsk:=rsk87) (enc:=enc87) (dec:=dec87) (tbl:=[]) (fun s=>rfl) Try.func87 (by kernel_rfl) (by kernel_rfl) (by kernel_rfl) (fun k=>les87)
  (fz) (fun k s0=> .nil)
  (F:=fun k s=>FX87 k s.1.1) (fun k s r h=>(e87 (FX97 k) s).trans (b87 k s.1.1 r h)) k
noncomputable abbrev GX86l0 (k:Nat) (x2:Int) (x8:Int) (x9:Int) (x10:Int) (x11:Int) (x13:Int) (x14:Int) (x15:Int) (x16:Int):Option R86:=All.bits_Div64.l0 k x2 x8 x9 x10 x11 x13 x14 x15 x16
noncomputable abbrev GX86l1 (k:Nat) (x2:Int) (x8:Int) (x9:Int) (x10:Int) (x14:Int) (x15:Int) (x16:Int) (x17:Int) (x18:Int):Option R86:=All.bits_Div64.l1 k x2 x8 x9 x10 x14 x15 x16 x17 x18
theorem b86l0 (k:Nat) (x2:Int) (x8:Int) (x9:Int) (x10:Int) (x11:Int) (x13:Int) (x14:Int) (x15:Int) (x16:Int):LeO (All.bits_Div64.l0 (k+1) x2 x8 x9 x10 x11 x13 x14 x15 x16) (B86l0 (GX86l0 k) (GX86l1 k) x2 x8 x9 x10 x11 x13 x14 x15 x16):=by
 rw [All.bits_Div64.l0]
 unfold B86l0
 (try simp only [GX86l0,GX86l1,FX87,All.integer_zero.f,All.exact_stepAt.f,All.S24.f0,All.S24.f1,All.rd_T24,All.z24])
 (try simp only [List.take_append_drop,List.drop_length,List.append_nil,Int.zero_sub,Int.toNat_natCast,Int.reduceToNat,Int.zero_add,List.take_zero,List.nil_append,List.append_assoc,List.length_set,ite_bind_,List.take_left,BAe,bne,decide_int_eq,decide_not,wrap_mod,if_true,if_false,Bool.false_eq_true,bind_assoc_,slice_def,List.drop_zero,List.take_length,wrap_u8,bind_some_,cnd_eq_if,rdOf,ite_not,Bool.and_eq_true,Bool.or_eq_true,Bool.not_eq_true',bfalse,Bool.not_eq_false',beq_iff_eq,decide_eq_true_eq,isEmpty_eq,ite_and_,ite_or_,ne_eq,toList_mk,List.toList_toArray])
 repeat' first
 | (with_reducible refine LeO.trans ((All.bits_Div64.mono_l k).2.2.2.2 _ _ _ _ _ _ _ _ _ _) ?_;rw [All.bits_Div64.j1];(try simp only [if_true,if_false,decide_eq_true_eq,Bool.false_eq_true,decide_not,ite_not,bne,decide_int_eq,beq_iff_eq,Bool.not_eq_true',bfalse,toList_mk,List.toList_toArray,ite_and_,ite_or_,Bool.and_eq_true,Bool.or_eq_true,isEmpty_eq,wrap_mod,wrap_u8,All.integer_zero.f,bind_some_,Int.toNat_natCast,Int.reduceToNat,Int.zero_sub,BAe]))
 | (with_reducible refine LeO.trans ((All.bits_Div64.mono_l k).1 _ _ _ _ _ _ _ _) ?_;rw [All.bits_Div64.j2];(try simp only [if_true,if_false,decide_eq_true_eq,Bool.false_eq_true,decide_not,ite_not,bne,decide_int_eq,beq_iff_eq,Bool.not_eq_true',bfalse,toList_mk,List.toList_toArray,ite_and_,ite_or_,Bool.and_eq_true,Bool.or_eq_true,isEmpty_eq,wrap_mod,wrap_u8,All.integer_zero.f,bind_some_,Int.toNat_natCast,Int.reduceToNat,Int.zero_sub,BAe]))
 | (with_reducible refine LeO.trans ((All.bits_Div64.mono_l k).2.2.1 _ _ _ _ _ _ _ _ _ _) ?_;rw [All.bits_Div64.j4];(try simp only [if_true,if_false,decide_eq_true_eq,Bool.false_eq_true,decide_not,ite_not,bne,decide_int_eq,beq_iff_eq,Bool.not_eq_true',bfalse,toList_mk,List.toList_toArray,ite_and_,ite_or_,Bool.and_eq_true,Bool.or_eq_true,isEmpty_eq,wrap_mod,wrap_u8,All.integer_zero.f,bind_some_,Int.toNat_natCast,Int.reduceToNat,Int.zero_sub,BAe]))
 | (with_reducible exact LeO.none _)
 | (with_reducible exact LeO.refl _)
 | (with_reducible refine LeO.posR (by with_reducible assumption) ?_)
 | (with_reducible refine LeO.negR (by with_reducible assumption) ?_)
 | (with_reducible refine LeO.bindR (by with_reducible assumption) ?_)
 | (with_reducible refine LeO.posL (by with_reducible assumption) ?_)
 | (with_reducible refine LeO.negL (by with_reducible assumption) ?_)
 | (with_reducible refine LeO.iteL (fun _=>?_) (fun _=>?_))
 | (with_reducible refine LeO.bindK (by with_reducible assumption) ?_)
 | (with_reducible refine LeO.bindL (fun _ _=>?_))
 | (refine LeO.posR (by first|decide|exact Int.le_refl _|omega|assumption) ?_)
 | (refine LeO.negR (by first|decide|omega) ?_)
theorem b86l1 (k:Nat) (x2:Int) (x8:Int) (x9:Int) (x10:Int) (x14:Int) (x15:Int) (x16:Int) (x17:Int) (x18:Int):LeO (All.bits_Div64.l1 (k+1) x2 x8 x9 x10 x14 x15 x16 x17 x18) (B86l1 (GX86l1 k) x2 x8 x9 x10 x14 x15 x16 x17 x18):=by
 rw [All.bits_Div64.l1]
 unfold B86l1
 (try simp only [GX86l0,GX86l1,FX87,All.integer_zero.f,All.exact_stepAt.f,All.S24.f0,All.S24.f1,All.rd_T24,All.z24])
 (try simp only [List.take_append_drop,List.drop_length,List.append_nil,Int.zero_sub,Int.toNat_natCast,Int.reduceToNat,Int.zero_add,List.take_zero,List.nil_append,List.append_assoc,List.length_set,ite_bind_,List.take_left,BAe,bne,decide_int_eq,decide_not,wrap_mod,if_true,if_false,Bool.false_eq_true,bind_assoc_,slice_def,List.drop_zero,List.take_length,wrap_u8,bind_some_,cnd_eq_if,rdOf,ite_not,Bool.and_eq_true,Bool.or_eq_true,Bool.not_eq_true',bfalse,Bool.not_eq_false',beq_iff_eq,decide_eq_true_eq,isEmpty_eq,ite_and_,ite_or_,ne_eq,toList_mk,List.toList_toArray])
 repeat' first
 | (with_reducible refine LeO.trans ((All.bits_Div64.mono_l k).2.2.2.2 _ _ _ _ _ _ _ _ _ _) ?_;rw [All.bits_Div64.j1];(try simp only [if_true,if_false,decide_eq_true_eq,Bool.false_eq_true,decide_not,ite_not,bne,decide_int_eq,beq_iff_eq,Bool.not_eq_true',bfalse,toList_mk,List.toList_toArray,ite_and_,ite_or_,Bool.and_eq_true,Bool.or_eq_true,isEmpty_eq,wrap_mod,wrap_u8,All.integer_zero.f,bind_some_,Int.toNat_natCast,Int.reduceToNat,Int.zero_sub,BAe]))
 | (with_reducible refine LeO.trans ((All.bits_Div64.mono_l k).1 _ _ _ _ _ _ _ _) ?_;rw [All.bits_Div64.j2];(try simp only [if_true,if_false,decide_eq_true_eq,Bool.false_eq_true,decide_not,ite_not,bne,decide_int_eq,beq_iff_eq,Bool.not_eq_true',bfalse,toList_mk,List.toList_toArray,ite_and_,ite_or_,Bool.and_eq_true,Bool.or_eq_true,isEmpty_eq,wrap_mod,wrap_u8,All.integer_zero.f,bind_some_,Int.toNat_natCast,Int.reduceToNat,Int.zero_sub,BAe]))
 | (with_reducible refine LeO.trans ((All.bits_Div64.mono_l k).2.2.1 _ _ _ _ _ _ _ _ _ _) ?_;rw [All.bits_Div64.j4];(try simp only [if_true,if_false,decide_eq_true_eq,Bool.false_eq_true,decide_not,ite_not,bne,decide_int_eq,beq_iff_eq,Bool.not_eq_true',bfalse,toList_mk,List.toList_toArray,ite_and_,ite_or_,Bool.and_eq_true,Bool.or_eq_true,isEmpty_eq,wrap_mod,wrap_u8,All.integer_zero.f,bind_some_,Int.toNat_natCast,Int.reduceToNat,Int.zero_sub,BAe]))
 | (with_reducible exact LeO.none _)
 | (with_reducible exact LeO.refl _)
 | (with_reducible refine LeO.posR (by with_reducible assumption) ?_)
 | (with_reducible refine LeO.negR (by with_reducible assumption) ?_)
 | (with_reducible refine LeO.bindR (by with_reducible assumption) ?_)
 | (with_reducible refine LeO.posL (by with_reducible assumption) ?_)
 | (with_reducible refine LeO.negL (by with_reducible assumption) ?_)
 | (with_reducible refine LeO.iteL (fun _=>?_) (fun _=>?_))
 | (with_reducible refine LeO.bindK (by with_reducible assumption) ?_)
 | (with_reducible refine LeO.bindL (fun _ _=>?_))
 | (refine LeO.posR (by first|decide|exact Int.le_refl _|omega|assumption) ?_)
 | (refine LeO.negR (by first|decide|omega) ?_)
theorem b86 (k:Nat) (x0:Int) (x1:Int) (x2:Int):LeO (FX86 k x0 x1 x2) (B86 (GX86l0 k) (FX87 k) x0 x1 x2):=by
 show LeO (All.bits_Div64.f k x0 x1 x2) _
 unfold All.bits_Div64.f
 unfold B86
 (try simp only [GX86l0,GX86l1,FX87,All.integer_zero.f,All.exact_stepAt.f,All.S24.f0,All.S24.f1,All.rd_T24,All.z24])
 (try simp only [List.take_append_drop,List.drop_length,List.append_nil,Int.zero_sub,Int.toNat_natCast,Int.reduceToNat,Int.zero_add,List.take_zero,List.nil_append,List.append_assoc,List.length_set,ite_bind_,List.take_left,BAe,bne,decide_int_eq,decide_not,wrap_mod,if_true,if_false,Bool.false_eq_true,bind_assoc_,slice_def,List.drop_zero,List.take_length,wrap_u8,bind_some_,cnd_eq_if,rdOf,ite_not,Bool.and_eq_true,Bool.or_eq_true,Bool.not_eq_true',bfalse,Bool.not_eq_false',beq_iff_eq,decide_eq_true_eq,isEmpty_eq,ite_and_,ite_or_,ne_eq,toList_mk,List.toList_toArray])
 repeat' first
 | (with_reducible refine LeO.trans ((All.bits_Div64.mono_l k).2.2.2.2 _ _ _ _ _ _ _ _ _ _) ?_;rw [All.bits_Div64.j1];(try simp only [if_true,if_false,decide_eq_true_eq,Bool.false_eq_true,decide_not,ite_not,bne,decide_int_eq,beq_iff_eq,Bool.not_eq_true',bfalse,toList_mk,List.toList_toArray,ite_and_,ite_or_,Bool.and_eq_true,Bool.or_eq_true,isEmpty_eq,wrap_mod,wrap_u8,All.integer_zero.f,bind_some_,Int.toNat_natCast,Int.reduceToNat,Int.zero_sub,BAe]))
 | (with_reducible refine LeO.trans ((All.bits_Div64.mono_l k).1 _ _ _ _ _ _ _ _) ?_;rw [All.bits_Div64.j2];(try simp only [if_true,if_false,decide_eq_true_eq,Bool.false_eq_true,decide_not,ite_not,bne,decide_int_eq,beq_iff_eq,Bool.not_eq_true',bfalse,toList_mk,List.toList_toArray,ite_and_,ite_or_,Bool.and_eq_true,Bool.or_eq_true,isEmpty_eq,wrap_mod,wrap_u8,All.integer_zero.f,bind_some_,Int.toNat_natCast,Int.reduceToNat,Int.zero_sub,BAe]))
 | (with_reducible refine LeO.trans ((All.bits_Div64.mono_l k).2.2.1 _ _ _ _ _ _ _ _ _ _) ?_;rw [All.bits_Div64.j4];(try simp only [if_true,if_false,decide_eq_true_eq,Bool.false_eq_true,decide_not,ite_not,bne,decide_int_eq,beq_iff_eq,Bool.not_eq_true',bfalse,toList_mk,List.toList_toArray,ite_and_,ite_or_,Bool.and_eq_true,Bool.or_eq_true,isEmpty_eq,wrap_mod,wrap_u8,All.integer_zero.f,bind_some_,Int.toNat_natCast,Int.reduceToNat,Int.zero_sub,BAe]))
 | (with_reducible exact LeO.none _)
 | (with_reducible exact LeO.refl _)
 | (with_reducible refine LeO.posR (by with_reducible assumption) ?_)
 | (with_reducible refine LeO.negR (by with_reducible assumption) ?_)
 | (with_reducible refine LeO.bindR (by with_reducible assumption) ?_)
 | (with_reducible refine LeO.posL (by with_reducible assumption) ?_)
 | (with_reducible refine LeO.negL (by with_reducible assumption) ?_)
 | (with_reducible refine LeO.iteL (fun _=>?_) (fun _=>?_))
 | (with_reducible refine LeO.bindK (by with_reducible assumption) ?_)
 | (with_reducible refine LeO.bindL (fun _ _=>?_))
 | (refine LeO.posR (by first|decide|exact Int.le_refl _|omega|assumption) ?_)
 | (refine LeO.negR (by first|decide|omega) ?_)
theorem ok86 (k:Nat):FeOk Try.prog (fe86 (FX86 k)):=
 fe_ok EOK HM (es:=fun k=>fes86 (FX87 k)) (fun k=>fc ⟨ok87 k,fz⟩) (N:=135) (an:=an86) (c:=cd86) (rms:=rm86) (ask:=ask86) (rsk:=rsk86) (enc:=enc86) (dec:=dec86) (tbl:=[p86.getD 0 ⟨0,[], .skip⟩,p86.getD 1 ⟨0,[], .skip⟩]) (fun s=>rfl) Try.func86 (by kernel_rfl) (by kernel_rfl) (by kernel_rfl) (fun k=>les86 (GX86l0 k) (GX86l1 k))
  (fc ⟨fun s=>rfl,fc ⟨fun s=>rfl,fz⟩⟩) (fun k s0=> .cons (by kernel_rfl) (by kernel_rfl) (fun s r h=>(e86l0 (GX86l0 k) (GX86l1 k) (FX87 k) s0 s).trans (b86l0 k s.1.1 s.1.2.1 s.1.2.2.1 s.1.2.2.2.1 s.1.2.2.2.2.1 s.1.2.2.2.2.2.1 s.1.2.2.2.2.2.2.1 s.1.2.2.2.2.2.2.2.1 s.1.2.2.2.2.2.2.2.2.1 r h)) (.cons (by kernel_rfl) (by kernel_rfl) (fun s r h=>(e86l1 (GX86l0 k) (GX86l1 k) (FX87 k) s0 s).trans (b86l1 k s.1.1 s.1.2.1 s.1.2.2.1 s.1.2.2.2.1 s.1.2.2.2.2.1 s.1.2.2.2.2.2.1 s.1.2.2.2.2.2.2.1 s.1.2.2.2.2.2.2.2.1 s.1.2.2.2.2.2.2.2.2.1 r h)) (.nil)))
  (F:=fun k s=>FX86 k s.1.1 s.1.2.1 s.1.2.2.1) (fun k s r h=>(e86 (GX86l0 k) (GX86l1 k) (FX87 k) s).trans (b86 k s.1.1 s.1.2.1 s.1.2.2.1 r h)) k
noncomputable abbrev GX88l0 (k:Nat) (x1:Int) (x12:(List Int)) (x13:Int) (x14:Int) (x5:(List Int)):Option R88:=All.exact_shiftUp.l0 k x1 x5 x12 x13 x14
theorem b88l0 (k:Nat) (x1:Int) (x12:(List Int)) (x13:Int) (x14:Int) (x5:(List Int)):LeO (All.exact_shiftUp.l0 (k+1) x1 x5 x12 x13 x14) (B88l0 (GX88l0 k) x1 x12 x13 x14 x5):=by rw [All.exact_shiftUp.l0];unfold B88l0;(try simp only [GX88l0,All.integer_zero.f,All.exact_stepAt.f,All.S24.f0,All.S24.f1,All.rd_T24,All.z24]);exact BR
theorem b88 (k:Nat) (x0:(List Int)) (x1:Int):LeO (FX88 k x0 x1) (B88 (GX88l0 k) x0 x1):=by
 show LeO (All.exact_shiftUp.f k x0 x1) _
 unfold All.exact_shiftUp.f;unfold B88;(try simp only [GX88l0,All.integer_zero.f,All.exact_stepAt.f,All.S24.f0,All.S24.f1,All.rd_T24,All.z24]);exact BR
theorem ok88 (k:Nat):FeOk Try.prog (fe88 (FX88 k)):=
 fe_ok EOK HM (es:=fun k=>fes88) (fun k=>fz) (N:=40) (an:=an88) (c:=cd88) (rms:=rm88) (ask:=ask88) (rsk:=rsk88) (enc:=enc88) (dec:=dec88) (tbl:=[p88.getD 0 ⟨0,[], .skip⟩]) (fun s=>rfl) Try.func88 (by kernel_rfl) (by kernel_rfl) (by kernel_rfl) (fun k=>les88 (GX88l0 k))
  (fc ⟨fun s=>rfl,fz⟩) (fun k s0=> .cons (by kernel_rfl) (by kernel_rfl) (fun s r h=>(e88l0 (GX88l0 k) s0 s).trans (b88l0 k s.1.1 s.1.2.1 s.1.2.2.1 s.1.2.2.2.1 s.2.1 r h)) (.nil))
  (F:=fun k s=>FX88 k s.1.1 s.1.2.1) (fun k s r h=>(e88 (GX88l0 k) s).trans (b88 k s.1.1 s.1.2.1 r h)) k
theorem b91 (k:Nat) (x0:Int) (x1:Int):LeO (FX91 k x0 x1) (B91 x0 x1):=by
 show LeO (All.bits_Mul64.f x0 x1) _
 unfold All.bits_Mul64.f;unfold B91;(try simp only [All.integer_zero.f,All.exact_stepAt.f,All.S24.f0,All.S24.f1,All.rd_T24,All.z24]);exact BR
theorem ok91 (k:Nat):FeOk Try.prog (fe91 (FX91 k)):=
 fe_ok EOK HM (es:=fun k=>fes91) (fun k=>fz) (N:=51) (an:=an91) (c:=cd91) (rms:=rm91) (ask:=ask91) (rsk:=rsk91) (enc:=enc91) (dec:=dec91) (tbl:=[]) (fun s=>rfl) Try.func91 (by kernel_rfl) (by kernel_rfl) (by kernel_rfl) (fun k=>les91)
  (fz) (fun k s0=> .nil)
  (F:=fun k s=>FX91 k s.1.1 s.1.2.1) (fun k s r h=>(e91 s).trans (b91 k s.1.1 s.1.2.1 r h)) k
noncomputable abbrev GX89l0 (k:Nat) (x1:(List Int)) (x5:Int) (x6:Int) (x7:Int) (x8:Int) (y0:(List Int)):Option R89:=All.exact_step.l0 k y0 x1 x5 x6 x7 x8
noncomputable abbrev GX89l1 (k:Nat) (x1:(List Int)) (x5:Int) (x6:Int) (x11:Int) (x12:Int) (x104:Int) (x105:Int) (y0:(List Int)):Option R89:=All.exact_step.l1 k y0 x1 x5 x6 x11 x12 x104 x105
noncomputable abbrev GX89l2 (k:Nat) (x1:(List Int)) (x5:Int) (x6:Int) (x17:Int) (x156:Int) (x157:Int) (y0:(List Int)):Option R89:=All.exact_step.l2 k y0 x1 x5 x6 x17 x156 x157
theorem b89l0 (k:Nat) (x1:(List Int)) (x5:Int) (x6:Int) (x7:Int) (x8:Int) (y0:(List Int)):LeO (All.exact_step.l0 (k+1) y0 x1 x5 x6 x7 x8) (B89l0 (GX89l0 k) (GX89l1 k) (FX83 k) (FX91 k) x1 x5 x6 x7 x8 y0):=by
 rw [All.exact_step.l0]
 unfold B89l0
 (try simp only [GX89l0,GX89l1,GX89l2,FX83,FX86,FX90,FX91,All.integer_zero.f,All.exact_stepAt.f,All.S24.f0,All.S24.f1,All.rd_T24,All.z24])
 (try simp only [List.take_append_drop,List.drop_length,List.append_nil,Int.zero_sub,Int.toNat_natCast,Int.reduceToNat,Int.zero_add,List.take_zero,List.nil_append,List.append_assoc,List.length_set,ite_bind_,List.take_left,BAe,bne,decide_int_eq,decide_not,wrap_mod,if_true,if_false,Bool.false_eq_true,bind_assoc_,slice_def,List.drop_zero,List.take_length,wrap_u8,bind_some_,cnd_eq_if,rdOf,ite_not,Bool.and_eq_true,Bool.or_eq_true,Bool.not_eq_true',bfalse,Bool.not_eq_false',beq_iff_eq,decide_eq_true_eq,isEmpty_eq,ite_and_,ite_or_,ne_eq,toList_mk,List.toList_toArray])
 repeat' first
 | (with_reducible refine LeO.trans ((All.exact_step.mono_l k).1 _ _ _ _ _ _) ?_;rw [All.exact_step.j0];(try simp only [if_true,if_false,decide_eq_true_eq,Bool.false_eq_true,decide_not,ite_not,bne,decide_int_eq,beq_iff_eq,Bool.not_eq_true',bfalse,toList_mk,List.toList_toArray,ite_and_,ite_or_,Bool.and_eq_true,Bool.or_eq_true,isEmpty_eq,wrap_mod,wrap_u8,All.integer_zero.f,bind_some_,Int.toNat_natCast,Int.reduceToNat,Int.zero_sub,BAe]))
 | (with_reducible refine LeO.trans ((All.exact_step.mono_l k).2.1 _ _ _ _) ?_;rw [All.exact_step.j2];(try simp only [if_true,if_false,decide_eq_true_eq,Bool.false_eq_true,decide_not,ite_not,bne,decide_int_eq,beq_iff_eq,Bool.not_eq_true',bfalse,toList_mk,List.toList_toArray,ite_and_,ite_or_,Bool.and_eq_true,Bool.or_eq_true,isEmpty_eq,wrap_mod,wrap_u8,All.integer_zero.f,bind_some_,Int.toNat_natCast,Int.reduceToNat,Int.zero_sub,BAe]))
 | (with_reducible exact LeO.none _)
 | (with_reducible exact LeO.refl _)
 | (with_reducible refine LeO.posR (by with_reducible assumption) ?_)
 | (with_reducible refine LeO.negR (by with_reducible assumption) ?_)
 | (with_reducible refine LeO.bindR (by with_reducible assumption) ?_)
 | (with_reducible refine LeO.posL (by with_reducible assumption) ?_)
 | (with_reducible refine LeO.negL (by with_reducible assumption) ?_)
 | (with_reducible refine LeO.iteL (fun _=>?_) (fun _=>?_))
 | (with_reducible refine LeO.bindK (by with_reducible assumption) ?_)
 | (with_reducible refine LeO.bindL (fun _ _=>?_))
 | (refine LeO.posR (by first|decide|exact Int.le_refl _|omega|assumption) ?_)
 | (refine LeO.negR (by first|decide|omega) ?_)
theorem b89l1 (k:Nat) (x1:(List Int)) (x5:Int) (x6:Int) (x11:Int) (x12:Int) (x104:Int) (x105:Int) (y0:(List Int)):LeO (All.exact_step.l1 (k+1) y0 x1 x5 x6 x11 x12 x104 x105) (B89l1 (GX89l1 k) (GX89l2 k) (FX83 k) (FX90 k) (FX91 k) x1 x5 x6 x11 x12 x104 x105 y0):=by
 rw [All.exact_step.l1]
 unfold B89l1
 (try simp only [GX89l0,GX89l1,GX89l2,FX83,FX86,FX90,FX91,All.integer_zero.f,All.exact_stepAt.f,All.S24.f0,All.S24.f1,All.rd_T24,All.z24])
 (try simp only [List.take_append_drop,List.drop_length,List.append_nil,Int.zero_sub,Int.toNat_natCast,Int.reduceToNat,Int.zero_add,List.take_zero,List.nil_append,List.append_assoc,List.length_set,ite_bind_,List.take_left,BAe,bne,decide_int_eq,decide_not,wrap_mod,if_true,if_false,Bool.false_eq_true,bind_assoc_,slice_def,List.drop_zero,List.take_length,wrap_u8,bind_some_,cnd_eq_if,rdOf,ite_not,Bool.and_eq_true,Bool.or_eq_true,Bool.not_eq_true',bfalse,Bool.not_eq_false',beq_iff_eq,decide_eq_true_eq,isEmpty_eq,ite_and_,ite_or_,ne_eq,toList_mk,List.toList_toArray])
 repeat' first
 | (with_reducible refine LeO.trans ((All.exact_step.mono_l k).1 _ _ _ _ _ _) ?_;rw [All.exact_step.j0];(try simp only [if_true,if_false,decide_eq_true_eq,Bool.false_eq_true,decide_not,ite_not,bne,decide_int_eq,beq_iff_eq,Bool.not_eq_true',bfalse,toList_mk,List.toList_toArray,ite_and_,ite_or_,Bool.and_eq_true,Bool.or_eq_true,isEmpty_eq,wrap_mod,wrap_u8,All.integer_zero.f,bind_some_,Int.toNat_natCast,Int.reduceToNat,Int.zero_sub,BAe]))
 | (with_reducible refine LeO.trans ((All.exact_step.mono_l k).2.1 _ _ _ _) ?_;rw [All.exact_step.j2];(try simp only [if_true,if_false,decide_eq_true_eq,Bool.false_eq_true,decide_not,ite_not,bne,decide_int_eq,beq_iff_eq,Bool.not_eq_true',bfalse,toList_mk,List.toList_toArray,ite_and_,ite_or_,Bool.and_eq_true,Bool.or_eq_true,isEmpty_eq,wrap_mod,wrap_u8,All.integer_zero.f,bind_some_,Int.toNat_natCast,Int.reduceToNat,Int.zero_sub,BAe]))
 | (with_reducible exact LeO.none _)
 | (with_reducible exact LeO.refl _)
 | (with_reducible refine LeO.posR (by with_reducible assumption) ?_)
 | (with_reducible refine LeO.negR (by with_reducible assumption) ?_)
 | (with_reducible refine LeO.bindR (by with_reducible assumption) ?_)
 | (with_reducible refine LeO.posL (by with_reducible assumption) ?_)
 | (with_reducible refine LeO.negL (by with_reducible assumption) ?_)
 | (with_reducible refine LeO.iteL (fun _=>?_) (fun _=>?_))
 | (with_reducible refine LeO.bindK (by with_reducible assumption) ?_)
 | (with_reducible refine LeO.bindL (fun _ _=>?_))
 | (refine LeO.posR (by first|decide|exact Int.le_refl _|omega|assumption) ?_)
 | (refine LeO.negR (by first|decide|omega) ?_)
theorem b89l2 (k:Nat) (x1:(List Int)) (x5:Int) (x6:Int) (x17:Int) (x156:Int) (x157:Int) (y0:(List Int)):LeO (All.exact_step.l2 (k+1) y0 x1 x5 x6 x17 x156 x157) (B89l2 (GX89l2 k) (FX83 k) x1 x5 x6 x17 x156 x157 y0):=by
 rw [All.exact_step.l2]
 unfold B89l2
 (try simp only [GX89l0,GX89l1,GX89l2,FX83,FX86,FX90,FX91,All.integer_zero.f,All.exact_stepAt.f,All.S24.f0,All.S24.f1,All.rd_T24,All.z24])
 (try simp only [List.take_append_drop,List.drop_length,List.append_nil,Int.zero_sub,Int.toNat_natCast,Int.reduceToNat,Int.zero_add,List.take_zero,List.nil_append,List.append_assoc,List.length_set,ite_bind_,List.take_left,BAe,bne,decide_int_eq,decide_not,wrap_mod,if_true,if_false,Bool.false_eq_true,bind_assoc_,slice_def,List.drop_zero,List.take_length,wrap_u8,bind_some_,cnd_eq_if,rdOf,ite_not,Bool.and_eq_true,Bool.or_eq_true,Bool.not_eq_true',bfalse,Bool.not_eq_false',beq_iff_eq,decide_eq_true_eq,isEmpty_eq,ite_and_,ite_or_,ne_eq,toList_mk,List.toList_toArray])
 repeat' first
 | (with_reducible refine LeO.trans ((All.exact_step.mono_l k).1 _ _ _ _ _ _) ?_;rw [All.exact_step.j0];(try simp only [if_true,if_false,decide_eq_true_eq,Bool.false_eq_true,decide_not,ite_not,bne,decide_int_eq,beq_iff_eq,Bool.not_eq_true',bfalse,toList_mk,List.toList_toArray,ite_and_,ite_or_,Bool.and_eq_true,Bool.or_eq_true,isEmpty_eq,wrap_mod,wrap_u8,All.integer_zero.f,bind_some_,Int.toNat_natCast,Int.reduceToNat,Int.zero_sub,BAe]))
 | (with_reducible refine LeO.trans ((All.exact_step.mono_l k).2.1 _ _ _ _) ?_;rw [All.exact_step.j2];(try simp only [if_true,if_false,decide_eq_true_eq,Bool.false_eq_true,decide_not,ite_not,bne,decide_int_eq,beq_iff_eq,Bool.not_eq_true',bfalse,toList_mk,List.toList_toArray,ite_and_,ite_or_,Bool.and_eq_true,Bool.or_eq_true,isEmpty_eq,wrap_mod,wrap_u8,All.integer_zero.f,bind_some_,Int.toNat_natCast,Int.reduceToNat,Int.zero_sub,BAe]))
 | (with_reducible exact LeO.none _)
 | (with_reducible exact LeO.refl _)
 | (with_reducible refine LeO.posR (by with_reducible assumption) ?_)
 | (with_reducible refine LeO.negR (by with_reducible assumption) ?_)
 | (with_reducible refine LeO.bindR (by with_reducible assumption) ?_)
 | (with_reducible refine LeO.posL (by with_reducible assumption) ?_)
 | (with_reducible refine LeO.negL (by with_reducible assumption) ?_)
 | (with_reducible refine LeO.iteL (fun _=>?_) (fun _=>?_))
 | (with_reducible refine LeO.bindK (by with_reducible assumption) ?_)
 | (with_reducible refine LeO.bindL (fun _ _=>?_))
 | (refine LeO.posR (by first|decide|exact Int.le_refl _|omega|assumption) ?_)
 | (refine LeO.negR (by first|decide|omega) ?_)
theorem b89 (k:Nat) (x1:(List Int)) (y0:(List Int)):LeO (FX89 k x1 y0) (B89 (GX89l0 k) (FX83 k) (FX86 k) x1 y0):=by
 show LeO (All.exact_step.f k y0 x1) _
 unfold All.exact_step.f
 unfold B89
 (try simp only [GX89l0,GX89l1,GX89l2,FX83,FX86,FX90,FX91,All.integer_zero.f,All.exact_stepAt.f,All.S24.f0,All.S24.f1,All.rd_T24,All.z24])
 (try simp only [List.take_append_drop,List.drop_length,List.append_nil,Int.zero_sub,Int.toNat_natCast,Int.reduceToNat,Int.zero_add,List.take_zero,List.nil_append,List.append_assoc,List.length_set,ite_bind_,List.take_left,BAe,bne,decide_int_eq,decide_not,wrap_mod,if_true,if_false,Bool.false_eq_true,bind_assoc_,slice_def,List.drop_zero,List.take_length,wrap_u8,bind_some_,cnd_eq_if,rdOf,ite_not,Bool.and_eq_true,Bool.or_eq_true,Bool.not_eq_true',bfalse,Bool.not_eq_false',beq_iff_eq,decide_eq_true_eq,isEmpty_eq,ite_and_,ite_or_,ne_eq,toList_mk,List.toList_toArray])
 repeat' first
 | (with_reducible refine LeO.trans ((All.exact_step.mono_l k).1 _ _ _ _ _ _) ?_;rw [All.exact_step.j0];(try simp only [if_true,if_false,decide_eq_true_eq,Bool.false_eq_true,decide_not,ite_not,bne,decide_int_eq,beq_iff_eq,Bool.not_eq_true',bfalse,toList_mk,List.toList_toArray,ite_and_,ite_or_,Bool.and_eq_true,Bool.or_eq_true,isEmpty_eq,wrap_mod,wrap_u8,All.integer_zero.f,bind_some_,Int.toNat_natCast,Int.reduceToNat,Int.zero_sub,BAe]))
 | (with_reducible refine LeO.trans ((All.exact_step.mono_l k).2.1 _ _ _ _) ?_;rw [All.exact_step.j2];(try simp only [if_true,if_false,decide_eq_true_eq,Bool.false_eq_true,decide_not,ite_not,bne,decide_int_eq,beq_iff_eq,Bool.not_eq_true',bfalse,toList_mk,List.toList_toArray,ite_and_,ite_or_,Bool.and_eq_true,Bool.or_eq_true,isEmpty_eq,wrap_mod,wrap_u8,All.integer_zero.f,bind_some_,Int.toNat_natCast,Int.reduceToNat,Int.zero_sub,BAe]))
 | (with_reducible exact LeO.none _)
 | (with_reducible exact LeO.refl _)
 | (with_reducible refine LeO.posR (by with_reducible assumption) ?_)
 | (with_reducible refine LeO.negR (by with_reducible assumption) ?_)
 | (with_reducible refine LeO.bindR (by with_reducible assumption) ?_)
 | (with_reducible refine LeO.posL (by with_reducible assumption) ?_)
 | (with_reducible refine LeO.negL (by with_reducible assumption) ?_)
 | (with_reducible refine LeO.iteL (fun _=>?_) (fun _=>?_))
 | (with_reducible refine LeO.bindK (by with_reducible assumption) ?_)
 | (with_reducible refine LeO.bindL (fun _ _=>?_))
 | (refine LeO.posR (by first|decide|exact Int.le_refl _|omega|assumption) ?_)
 | (refine LeO.negR (by first|decide|omega) ?_)
theorem ok89 (k:Nat):FeOk Try.prog (fe89 (FX89 k)):=
 fe_ok EOK HM (es:=fun k=>fes89 (FX83 k) (FX86 k) (FX90 k) (FX91 k)) (fun k=>fc ⟨ok83 k,fc ⟨ok86 k,fc ⟨ok90 k,fc ⟨ok91 k,fz⟩⟩⟩⟩) (N:=186) (an:=an89) (c:=cd89) (rms:=rm89) (ask:=ask89) (rsk:=rsk89) (enc:=enc89) (dec:=dec89) (tbl:=[p89.getD 0 ⟨0,[], .skip⟩,p89.getD 1 ⟨0,[], .skip⟩,p89.getD 2 ⟨0,[], .skip⟩]) (fun s=>rfl) Try.func89 (by kernel_rfl) (by kernel_rfl) (by kernel_rfl) (fun k=>les89 (GX89l0 k) (GX89l1 k) (GX89l2 k))
  (fc ⟨fun s=>rfl,fc ⟨fun s=>rfl,fc ⟨fun s=>rfl,fz⟩⟩⟩) (fun k s0=> .cons (by kernel_rfl) (by kernel_rfl) (fun s r h=>(e89l0 (GX89l0 k) (GX89l1 k) (GX89l2 k) (FX83 k) (FX86 k) (FX90 k) (FX91 k) s0 s).trans (b89l0 k s.1.1 s.1.2.1 s.1.2.2.1 s.1.2.2.2.1 s.1.2.2.2.2.1 s.2.1 r h)) (.cons (by kernel_rfl) (by kernel_rfl) (fun s r h=>(e89l1 (GX89l0 k) (GX89l1 k) (GX89l2 k) (FX83 k) (FX86 k) (FX90 k) (FX91 k) s0 s).trans (b89l1 k s.1.1 s.1.2.1 s.1.2.2.1 s.1.2.2.2.1 s.1.2.2.2.2.1 s.1.2.2.2.2.2.1 s.1.2.2.2.2.2.2.1 s.2.1 r h)) (.cons (by kernel_rfl) (by kernel_rfl) (fun s r h=>(e89l2 (GX89l0 k) (GX89l1 k) (GX89l2 k) (FX83 k) (FX86 k) (FX90 k) (FX91 k) s0 s).trans (b89l2 k s.1.1 s.1.2.1 s.1.2.2.1 s.1.2.2.2.1 s.1.2.2.2.2.1 s.1.2.2.2.2.2.1 s.2.1 r h)) (.nil))))
  (F:=fun k s=>FX89 k s.1.1 s.2.1) (fun k s r h=>(e89 (GX89l0 k) (GX89l1 k) (GX89l2 k) (FX83 k) (FX86 k) (FX90 k) (FX91 k) s).trans (b89 k s.1.1 s.2.1 r h)) k
noncomputable abbrev GX74l0 (k:Nat) (x0:(List Int)) (x1:(List Int)) (x7:Int) (x8:Int) (x6:(List Int)):Option R74:=All.exact_divide.l0 k x0 x1 x6 x7 x8
noncomputable abbrev GX74l1 (k:Nat) (x9:Int) (x10:(List Int)) (x12:Int) (x14:Int) (x11:(List Int)) (x13:(List Int)):Option R74:=All.exact_divide.l1 k x9 x10 x11 x12 x13 x14
noncomputable abbrev GX74l2 (k:Nat) (x9:Int) (x12:Int) (x96:Int) (x97:Int) (x11:(List Int)) (x13:(List Int)):Option R74:=All.exact_divide.l2 k x9 x11 x12 x13 x96 x97
theorem b74l0 (k:Nat) (x0:(List Int)) (x1:(List Int)) (x7:Int) (x8:Int) (x6:(List Int)):LeO (All.exact_divide.l0 (k+1) x0 x1 x6 x7 x8) (B74l0 (GX74l0 k) (FX84 k) (FX86 k) x0 x1 x7 x8 x6):=by rw [All.exact_divide.l0];unfold B74l0;(try simp only [GX74l0,GX74l1,GX74l2,FX84,FX85,FX86,FX87,FX88,FX89,All.integer_zero.f,All.exact_stepAt.f,All.S24.f0,All.S24.f1,All.rd_T24,All.z24]);exact BR
theorem b74l1 (k:Nat) (x9:Int) (x10:(List Int)) (x12:Int) (x14:Int) (x11:(List Int)) (x13:(List Int)):LeO (All.exact_divide.l1 (k+1) x9 x10 x11 x12 x13 x14) (B74l1 (GX74l1 k) (GX74l2 k) (FX89 k) x9 x10 x12 x14 x11 x13):=by rw [All.exact_divide.l1];unfold B74l1;(try simp only [GX74l0,GX74l1,GX74l2,FX84,FX85,FX86,FX87,FX88,FX89,All.integer_zero.f,All.exact_stepAt.f,All.S24.f0,All.S24.f1,All.rd_T24,All.z24]);exact BR
theorem b74l2 (k:Nat) (x9:Int) (x12:Int) (x96:Int) (x97:Int) (x11:(List Int)) (x13:(List Int)):LeO (All.exact_divide.l2 (k+1) x9 x11 x12 x13 x96 x97) (B74l2 (GX74l2 k) (FX84 k) x9 x12 x96 x97 x11 x13):=by rw [All.exact_divide.l2];unfold B74l2;(try simp only [GX74l0,GX74l1,GX74l2,FX84,FX85,FX86,FX87,FX88,FX89,All.integer_zero.f,All.exact_stepAt.f,All.S24.f0,All.S24.f1,All.rd_T24,All.z24]);exact BR
theorem b74 (k:Nat) (x0:(List Int)) (x1:(List Int)):LeO (FX74 k x0 x1) (B74 (GX74l0 k) (GX74l1 k) (FX84 k) (FX85 k) (FX87 k) (FX88 k) x0 x1):=by
 show LeO (All.exact_divide.f k x0 x1) _
 unfold All.exact_divide.f;unfold B74;(try simp only [GX74l0,GX74l1,GX74l2,FX84,FX85,FX86,FX87,FX88,FX89,All.integer_zero.f,All.exact_stepAt.f,All.S24.f0,All.S24.f1,All.rd_T24,All.z24]);exact BR
theorem ok74 (k:Nat):FeOk Try.prog (fe74 (FX74 k)):=
 fe_ok EOK HM (es:=fun k=>fes74 (FX84 k) (FX85 k) (FX86 k) (FX87 k) (FX88 k) (FX89 k)) (fun k=>fc ⟨ok84 k,fc ⟨ok85 k,fc ⟨ok86 k,fc ⟨ok87 k,fc ⟨ok88 k,fc ⟨ok89 k,fz⟩⟩⟩⟩⟩⟩) (N:=137) (an:=an74) (c:=cd74) (rms:=rm74) (ask:=ask74) (rsk:=rsk74) (enc:=enc74) (dec:=dec74) (tbl:=[p74.getD 0 ⟨0,[], .skip⟩,p74.getD 1 ⟨0,[], .skip⟩,p74.getD 2 ⟨0,[], .skip⟩]) (fun s=>rfl) Try.func74 (by kernel_rfl) (by kernel_rfl) (by kernel_rfl) (fun k=>les74 (GX74l0 k) (GX74l1 k) (GX74l2 k))
  (fc ⟨fun s=>rfl,fc ⟨fun s=>rfl,fc ⟨fun s=>rfl,fz⟩⟩⟩) (fun k s0=> .cons (by kernel_rfl) (by kernel_rfl) (fun s r h=>(e74l0 (GX74l0 k) (GX74l1 k) (GX74l2 k) (FX84 k) (FX85 k) (FX86 k) (FX87 k) (FX88 k) (FX89 k) s0 s).trans (b74l0 k s.1.1 s.1.2.1 s.1.2.2.1 s.1.2.2.2.1 s.2.1 r h)) (.cons (by kernel_rfl) (by kernel_rfl) (fun s r h=>(e74l1 (GX74l0 k) (GX74l1 k) (GX74l2 k) (FX84 k) (FX85 k) (FX86 k) (FX87 k) (FX88 k) (FX89 k) s0 s).trans (b74l1 k s.1.1 s.1.2.1 s.1.2.2.1 s.1.2.2.2.1 s.2.1 s.2.2.1 r h)) (.cons (by kernel_rfl) (by kernel_rfl) (fun s r h=>(e74l2 (GX74l0 k) (GX74l1 k) (GX74l2 k) (FX84 k) (FX85 k) (FX86 k) (FX87 k) (FX88 k) (FX89 k) s0 s).trans (b74l2 k s.1.1 s.1.2.1 s.1.2.2.1 s.1.2.2.2.1 s.2.1 s.2.2.1 r h)) (.nil))))
  (F:=fun k s=>FX74 k s.1.1 s.1.2.1) (fun k s r h=>(e74 (GX74l0 k) (GX74l1 k) (GX74l2 k) (FX84 k) (FX85 k) (FX86 k) (FX87 k) (FX88 k) (FX89 k) s).trans (b74 k s.1.1 s.1.2.1 r h)) k
noncomputable abbrev GX84vl0 (k:Nat) (x0:(List Int)) (x3:Int):Option R84v:=All.exact_trim.l0 k x0 x3
theorem b84vl0 (k:Nat) (x0:(List Int)) (x3:Int):LeO (All.exact_trim.l0 (k+1) x0 x3) (B84vl0 (GX84vl0 k) x0 x3):=by rw [All.exact_trim.l0];unfold B84vl0;(try simp only [GX84vl0,All.integer_zero.f,All.exact_stepAt.f,All.S24.f0,All.S24.f1,All.rd_T24,All.z24]);exact BR
theorem b84v (k:Nat) (x0:(List Int)):LeO (FX84v k x0) (B84v (GX84vl0 k) x0):=by
 show LeO (All.exact_trim.f k x0) _
 unfold All.exact_trim.f;unfold B84v;(try simp only [GX84vl0,All.integer_zero.f,All.exact_stepAt.f,All.S24.f0,All.S24.f1,All.rd_T24,All.z24]);exact BR
theorem ok84v (k:Nat):FeOk Try.prog (fe84v (FX84v k)):=
 fe_ok EOK HM (es:=fun k=>fes84v) (fun k=>fz) (N:=21) (an:=an84v) (c:=cd84v) (rms:=rm84v) (ask:=ask84v) (rsk:=rsk84v) (enc:=enc84v) (dec:=dec84v) (tbl:=[p84v.getD 0 ⟨0,[], .skip⟩]) (fun s=>rfl) Try.func84 (by kernel_rfl) (by kernel_rfl) (by kernel_rfl) (fun k=>les84v (GX84vl0 k))
  (fc ⟨fun s=>rfl,fz⟩) (fun k s0=> .cons (by kernel_rfl) (by kernel_rfl) (fun s r h=>(e84vl0 (GX84vl0 k) s0 s).trans (b84vl0 k s.1.1 s.1.2.1 r h)) (.nil))
  (F:=fun k s=>FX84v k s.1.1) (fun k s r h=>(e84v (GX84vl0 k) s).trans (b84v k s.1.1 r h)) k
noncomputable abbrev GX75l0 (k:Nat) (x17:(List Int)) (x18:Int) (x19:Int) (x3:(List Int)):Option R75:=All.exact_pack.l0 k x3 x17 x18 x19
noncomputable abbrev GX75l1 (k:Nat) (x4:Int) (x5:Int) (x17:(List Int)) (x18:Int) (x19:Int) (x24:Int) (x3:(List Int)):Option R75:=All.exact_pack.l1 k x3 x4 x5 x17 x18 x19 x24
noncomputable abbrev GX75l2 (k:Nat) (x7:Int) (x3:(List Int)):Option R75:=All.exact_pack.l2 k x3 x7
theorem b75l0 (k:Nat) (x17:(List Int)) (x18:Int) (x19:Int) (x3:(List Int)):LeO (All.exact_pack.l0 (k+1) x3 x17 x18 x19) (B75l0 (GX75l1 k) (GX75l2 k) x17 x18 x19 x3):=by rw [All.exact_pack.l0];unfold B75l0;(try simp only [GX75l0,GX75l1,GX75l2,FX84v,All.integer_zero.f,All.exact_stepAt.f,All.S24.f0,All.S24.f1,All.rd_T24,All.z24]);exact BR
theorem b75l1 (k:Nat) (x4:Int) (x5:Int) (x17:(List Int)) (x18:Int) (x19:Int) (x24:Int) (x3:(List Int)):LeO (All.exact_pack.l1 (k+1) x3 x4 x5 x17 x18 x19 x24) (B75l1 (GX75l0 k) (GX75l1 k) x4 x5 x17 x18 x19 x24 x3):=by rw [All.exact_pack.l1];unfold B75l1;(try simp only [GX75l0,GX75l1,GX75l2,FX84v,All.integer_zero.f,All.exact_stepAt.f,All.S24.f0,All.S24.f1,All.rd_T24,All.z24]);exact BR
theorem b75l2 (k:Nat) (x7:Int) (x3:(List Int)):LeO (All.exact_pack.l2 (k+1) x3 x7) (B75l2 (GX75l2 k) x7 x3):=by rw [All.exact_pack.l2];unfold B75l2;(try simp only [GX75l0,GX75l1,GX75l2,FX84v,All.integer_zero.f,All.exact_stepAt.f,All.S24.f0,All.S24.f1,All.rd_T24,All.z24]);exact BR
theorem b75 (k:Nat) (x0:(List Int)):LeO (FX75 k x0) (B75 (GX75l0 k) (FX84v k) x0):=by
 show LeO (All.exact_pack.f k x0) _
 unfold All.exact_pack.f;unfold B75;(try simp only [GX75l0,GX75l1,GX75l2,FX84v,All.integer_zero.f,All.exact_stepAt.f,All.S24.f0,All.S24.f1,All.rd_T24,All.z24]);exact BR
theorem ok75 (k:Nat):FeOk Try.prog (fe75 (FX75 k)):=
 fe_ok EOK HM (es:=fun k=>fes75 (FX84v k)) (fun k=>fc ⟨ok84v k,fz⟩) (N:=55) (an:=an75) (c:=cd75) (rms:=rm75) (ask:=ask75) (rsk:=rsk75) (enc:=enc75) (dec:=dec75) (tbl:=[p75.getD 0 ⟨0,[], .skip⟩,p75.getD 1 ⟨0,[], .skip⟩,p75.getD 2 ⟨0,[], .skip⟩]) (fun s=>rfl) Try.func75 (by kernel_rfl) (by kernel_rfl) (by kernel_rfl) (fun k=>les75 (GX75l0 k) (GX75l1 k) (GX75l2 k))
  (fc ⟨fun s=>rfl,fc ⟨fun s=>rfl,fc ⟨fun s=>rfl,fz⟩⟩⟩) (fun k s0=> .cons (by kernel_rfl) (by kernel_rfl) (fun s r h=>(e75l0 (GX75l0 k) (GX75l1 k) (GX75l2 k) (FX84v k) s0 s).trans (b75l0 k s.1.1 s.1.2.1 s.1.2.2.1 s.2.1 r h)) (.cons (by kernel_rfl) (by kernel_rfl) (fun s r h=>(e75l1 (GX75l0 k) (GX75l1 k) (GX75l2 k) (FX84v k) s0 s).trans (b75l1 k s.1.1 s.1.2.1 s.1.2.2.1 s.1.2.2.2.1 s.1.2.2.2.2.1 s.1.2.2.2.2.2.1 s.2.1 r h)) (.cons (by kernel_rfl) (by kernel_rfl) (fun s r h=>(e75l2 (GX75l0 k) (GX75l1 k) (GX75l2 k) (FX84v k) s0 s).trans (b75l2 k s.1.1 s.2.1 r h)) (.nil))))
  (F:=fun k s=>FX75 k s.1.1) (fun k s r h=>(e75 (GX75l0 k) (GX75l1 k) (GX75l2 k) (FX84v k) s).trans (b75 k s.1.1 r h)) k
noncomputable abbrev GX52l0 (k:Nat) (x5:(List Int)) (x6:(List Int)):Option R52:=All.exact_NatGcd.l0 k x5 x6
theorem b52l0 (k:Nat) (x5:(List Int)) (x6:(List Int)):LeO (All.exact_NatGcd.l0 (k+1) x5 x6) (B52l0 (GX52l0 k) (FX74 k) (FX75 k) x5 x6):=by rw [All.exact_NatGcd.l0];unfold B52l0;(try simp only [GX52l0,FX73,FX74,FX75,All.integer_zero.f,All.exact_stepAt.f,All.S24.f0,All.S24.f1,All.rd_T24,All.z24]);exact BR
theorem b52 (k:Nat) (x0:ByteArray) (x1:ByteArray):LeO (FX52 k x0 x1) (B52 (GX52l0 k) (FX73 k) x0 x1):=by
 show LeO (All.exact_NatGcd.f k x0 x1) _
 unfold All.exact_NatGcd.f;unfold B52;(try simp only [GX52l0,FX73,FX74,FX75,All.integer_zero.f,All.exact_stepAt.f,All.S24.f0,All.S24.f1,All.rd_T24,All.z24]);exact BR
theorem ok52 (k:Nat):FeOk Try.prog (fe52 (FX52 k)):=
 fe_ok EOK HM (es:=fun k=>fes52 (FX73 k) (FX74 k) (FX75 k)) (fun k=>fc ⟨ok73 k,fc ⟨ok74 k,fc ⟨ok75 k,fz⟩⟩⟩) (N:=26) (an:=an52) (c:=cd52) (rms:=rm52) (ask:=ask52) (rsk:=rsk52) (enc:=enc52) (dec:=dec52) (tbl:=[p52.getD 0 ⟨0,[], .skip⟩]) (fun s=>rfl) Try.func52 (by kernel_rfl) (by kernel_rfl) (by kernel_rfl) (fun k=>les52 (GX52l0 k))
  (fc ⟨fun s=>rfl,fz⟩) (fun k s0=> .cons (by kernel_rfl) (by kernel_rfl) (fun s r h=>(e52l0 (GX52l0 k) (FX73 k) (FX74 k) (FX75 k) s0 s).trans (b52l0 k s.1.1 s.1.2.1 r h)) (.nil))
  (F:=fun k s=>FX52 k s.1.1 s.1.2.1) (fun k s r h=>(e52 (GX52l0 k) (FX73 k) (FX74 k) (FX75 k) s).trans (b52 k s.1.1 s.1.2.1 r h)) k
theorem b53 (k:Nat) (x0:ByteArray) (x1:ByteArray):LeO (FX53 k x0 x1) (B53 (FX73 k) (FX74 k) (FX75 k) x0 x1):=by
 show LeO (All.exact_NatDivMod.f k x0 x1) _
 unfold All.exact_NatDivMod.f;unfold B53;(try simp only [FX73,FX74,FX75,All.integer_zero.f,All.exact_stepAt.f,All.S24.f0,All.S24.f1,All.rd_T24,All.z24]);exact BR
theorem ok53 (k:Nat):FeOk Try.prog (fe53 (FX53 k)):=
 fe_ok EOK HM (es:=fun k=>fes53 (FX73 k) (FX74 k) (FX75 k)) (fun k=>fc ⟨ok73 k,fc ⟨ok74 k,fc ⟨ok75 k,fz⟩⟩⟩) (N:=20) (an:=an53) (c:=cd53) (rms:=rm53) (ask:=ask53) (rsk:=rsk53) (enc:=enc53) (dec:=dec53) (tbl:=[]) (fun s=>rfl) Try.func53 (by kernel_rfl) (by kernel_rfl) (by kernel_rfl) (fun k=>les53)
  (fz) (fun k s0=> .nil)
  (F:=fun k s=>FX53 k s.1.1 s.1.2.1) (fun k s r h=>(e53 (FX73 k) (FX74 k) (FX75 k) s).trans (b53 k s.1.1 s.1.2.1 r h)) k
theorem b54 (k:Nat) (x0:Bool) (x1:ByteArray):LeO (FX54 k x0 x1) (B54 x0 x1):=by
 show LeO (All.exact_IntMake.f x0 x1) _
 unfold All.exact_IntMake.f;unfold B54;(try simp only [All.integer_zero.f,All.exact_stepAt.f,All.S24.f0,All.S24.f1,All.rd_T24,All.z24]);exact BR
theorem ok54 (k:Nat):FeOk Try.prog (fe54 (FX54 k)):=
 fe_ok EOK HM (es:=fun k=>fes54) (fun k=>fz) (N:=12) (an:=an54) (c:=cd54) (rms:=rm54) (ask:=ask54) (rsk:=rsk54) (enc:=enc54) (dec:=dec54) (tbl:=[]) (fun s=>rfl) Try.func54 (by kernel_rfl) (by kernel_rfl) (by kernel_rfl) (fun k=>les54)
  (fz) (fun k s0=> .nil)
  (F:=fun k s=>FX54 k s.1.1 s.1.2.1) (fun k s r h=>(e54 s).trans (b54 k s.1.1 s.1.2.1 r h)) k
theorem b23 (k:Nat) (x0:TI) (x1:TI):LeO (FX23 k x0 x1) (B23 (FX52 k) (FX53 k) (FX54 k) x0 x1):=LeO.refl _
theorem ok23 (k:Nat):FeOk Try.prog (fe23 (FX23 k)):=
 fe_ok EOK HM (es:=fun k=>fes23 (FX52 k) (FX53 k) (FX54 k)) (fun k=>fc ⟨ok52 k,fc ⟨ok53 k,fc ⟨ok54 k,fz⟩⟩⟩) (N:=40) (an:=an23) (c:=cd23) (rms:=rm23) (ask:=ask23) (rsk:=rsk23) (enc:=enc23) (dec:=dec23) (tbl:=[]) (fun s=>rfl) Try.func23 (by kernel_rfl) (by kernel_rfl) (by kernel_rfl) (fun k=>les23)
  (fz) (fun k s0=> .nil)
  (F:=fun k s=>FX23 k s.1.1 s.1.2.1) (fun k s r h=>(e23 (FX52 k) (FX53 k) (FX54 k) s).trans (b23 k s.1.1 s.1.2.1 r h)) k
theorem b72 (k:Nat) (x0:Int):LeO (FX72 k x0) (B72 (FX75 k) x0):=by
 show LeO (All.exact_NatOf.f k x0) _
 unfold All.exact_NatOf.f;unfold B72;(try simp only [FX75,All.integer_zero.f,All.exact_stepAt.f,All.S24.f0,All.S24.f1,All.rd_T24,All.z24]);exact BR
theorem ok72 (k:Nat):FeOk Try.prog (fe72 (FX72 k)):=
 fe_ok EOK HM (es:=fun k=>fes72 (FX75 k)) (fun k=>fc ⟨ok75 k,fz⟩) (N:=6) (an:=an72) (c:=cd72) (rms:=rm72) (ask:=ask72) (rsk:=rsk72) (enc:=enc72) (dec:=dec72) (tbl:=[]) (fun s=>rfl) Try.func72 (by kernel_rfl) (by kernel_rfl) (by kernel_rfl) (fun k=>les72)
  (fz) (fun k s0=> .nil)
  (F:=fun k s=>FX72 k s.1.1) (fun k s r h=>(e72 (FX75 k) s).trans (b72 k s.1.1 r h)) k
theorem b48 (k:Nat) (x0:Int):LeO (FX48 k x0) (B48 (FX72 k) x0):=by
 show LeO (All.exact_IntOf.f k x0) _
 unfold All.exact_IntOf.f;unfold B48;(try simp only [FX72,All.integer_zero.f,All.exact_stepAt.f,All.S24.f0,All.S24.f1,All.rd_T24,All.z24]);exact BR
theorem ok48 (k:Nat):FeOk Try.prog (fe48 (FX48 k)):=
 fe_ok EOK HM (es:=fun k=>fes48 (FX72 k)) (fun k=>fc ⟨ok72 k,fz⟩) (N:=14) (an:=an48) (c:=cd48) (rms:=rm48) (ask:=ask48) (rsk:=rsk48) (enc:=enc48) (dec:=dec48) (tbl:=[]) (fun s=>rfl) Try.func48 (by kernel_rfl) (by kernel_rfl) (by kernel_rfl) (fun k=>les48)
  (fz) (fun k s0=> .nil)
  (F:=fun k s=>FX48 k s.1.1) (fun k s r h=>(e48 (FX72 k) s).trans (b48 k s.1.1 r h)) k
theorem b20 (k:Nat) (x0:Int) (x1:Int):LeO (FX20 k x0 x1) (B20 (FX23 k) (FX48 k) x0 x1):=LeO.refl _
theorem ok20 (k:Nat):FeOk Try.prog (fe20 (FX20 k)):=
 fe_ok EOK HM (es:=fun k=>fes20 (FX23 k) (FX48 k)) (fun k=>fc ⟨ok23 k,fc ⟨ok48 k,fz⟩⟩) (N:=10) (an:=an20) (c:=cd20) (rms:=rm20) (ask:=ask20) (rsk:=rsk20) (enc:=enc20) (dec:=dec20) (tbl:=[]) (fun s=>rfl) Try.func20 (by kernel_rfl) (by kernel_rfl) (by kernel_rfl) (fun k=>les20)
  (fz) (fun k s0=> .nil)
  (F:=fun k s=>FX20 k s.1.1 s.1.2.1) (fun k s r h=>(e20 (FX23 k) (FX48 k) s).trans (b20 k s.1.1 s.1.2.1 r h)) k
theorem b5 (k:Nat) (x0:Int) (x1:Int):LeO (FX5 k x0 x1) (B5 (FX20 k) x0 x1):=LeO.refl _
theorem ok5 (k:Nat):FeOk Try.prog (fe5 (FX5 k)):=
 fe_ok EOK HM (es:=fun k=>fes5 (FX20 k)) (fun k=>fc ⟨ok20 k,fz⟩) (N:=12) (an:=an5) (c:=cd5) (rms:=rm5) (ask:=ask5) (rsk:=rsk5) (enc:=enc5) (dec:=dec5) (tbl:=[]) (fun s=>rfl) Try.func5 (by kernel_rfl) (by kernel_rfl) (by kernel_rfl) (fun k=>les5)
  (fz) (fun k s0=> .nil)
  (F:=fun k s=>FX5 k s.1.1 s.1.2.1) (fun k s r h=>(e5 (FX20 k) s).trans (b5 k s.1.1 s.1.2.1 r h)) k
theorem ok76 (k:Nat):FeOk Try.prog (fe76 (FX76 k)):=
 fe_ok EOK HM (es:=fun k=>fes76) (fun k=>fz) (N:=21) (an:=an76) (c:=cd76) (rms:=rm76) (ask:=ask76) (rsk:=rsk76) (enc:=enc76) (dec:=dec76) (tbl:=[p76.getD 0 ⟨0,[], .skip⟩]) (fun s=>rfl) Try.func76 (by kernel_rfl) (by kernel_rfl) (by kernel_rfl) (fun k=>les76 (GX76l0 k))
  (fc ⟨fun s=>by show ite _ _ _=none;split<;>rfl,fz⟩) (fun k s0=> .cons (by kernel_rfl) (by kernel_rfl) (fun s r h=>(e76l0 (GX76l0 k) s0 s).trans (b76l0 k s.1.1 s.2.1 r h)) (.nil))
  (F:=fun k s=>FX76 k s.2.1) (fun k s r h=>(e76 (GX76l0 k) s).trans (b76 k s.2.1 r h)) k
noncomputable abbrev GX57l0 (k:Nat) (x0:ByteArray) (x4:Int) (x3:(List Int)):Option R57:=All.galoisref01_limbs.l0 k x0 x3 x4
noncomputable abbrev GX57l1 (k:Nat) (x0:ByteArray) (x4:Int) (x5:Int) (x6:Int) (x3:(List Int)):Option R57:=All.galoisref01_limbs.l1 k x0 x3 x4 x5 x6
theorem b57l0 (k:Nat) (x0:ByteArray) (x4:Int) (x3:(List Int)):LeO (All.galoisref01_limbs.l0 (k+1) x0 x3 x4) (B57l0 (GX57l1 k) (FX76 k) x0 x4 x3):=by rw [All.galoisref01_limbs.l0];unfold B57l0;(try simp only [GX57l0,GX57l1,FX76,All.integer_zero.f,All.exact_stepAt.f,All.S24.f0,All.S24.f1,All.rd_T24,All.z24]);exact BR
theorem b57l1 (k:Nat) (x0:ByteArray) (x4:Int) (x5:Int) (x6:Int) (x3:(List Int)):LeO (All.galoisref01_limbs.l1 (k+1) x0 x3 x4 x5 x6) (B57l1 (GX57l0 k) (GX57l1 k) x0 x4 x5 x6 x3):=by rw [All.galoisref01_limbs.l1];unfold B57l1;(try simp only [GX57l0,GX57l1,FX76,All.integer_zero.f,All.exact_stepAt.f,All.S24.f0,All.S24.f1,All.rd_T24,All.z24]);exact BR
theorem b57 (k:Nat) (x0:ByteArray):LeO (FX57 k x0) (B57 (GX57l0 k) x0):=by
 show LeO (All.galoisref01_limbs.f k x0) _
 unfold All.galoisref01_limbs.f;unfold B57;(try simp only [GX57l0,GX57l1,FX76,All.integer_zero.f,All.exact_stepAt.f,All.S24.f0,All.S24.f1,All.rd_T24,All.z24]);exact BR
theorem ok57 (k:Nat):FeOk Try.prog (fe57 (FX57 k)):=
 fe_ok EOK HM (es:=fun k=>fes57 (FX76 k)) (fun k=>fc ⟨ok76 k,fz⟩) (N:=34) (an:=an57) (c:=cd57) (rms:=rm57) (ask:=ask57) (rsk:=rsk57) (enc:=enc57) (dec:=dec57) (tbl:=[p57.getD 0 ⟨0,[], .skip⟩,p57.getD 1 ⟨0,[], .skip⟩]) (fun s=>rfl) Try.func57 (by kernel_rfl) (by kernel_rfl) (by kernel_rfl) (fun k=>les57 (GX57l0 k) (GX57l1 k))
  (fc ⟨fun s=>rfl,fc ⟨fun s=>rfl,fz⟩⟩) (fun k s0=> .cons (by kernel_rfl) (by kernel_rfl) (fun s r h=>(e57l0 (GX57l0 k) (GX57l1 k) (FX76 k) s0 s).trans (b57l0 k s.1.1 s.1.2.1 s.2.1 r h)) (.cons (by kernel_rfl) (by kernel_rfl) (fun s r h=>(e57l1 (GX57l0 k) (GX57l1 k) (FX76 k) s0 s).trans (b57l1 k s.1.1 s.1.2.1 s.1.2.2.1 s.1.2.2.2.1 s.2.1 r h)) (.nil)))
  (F:=fun k s=>FX57 k s.1.1) (fun k s r h=>(e57 (GX57l0 k) (GX57l1 k) (FX76 k) s).trans (b57 k s.1.1 r h)) k
theorem ok58 (k:Nat):FeOk Try.prog (fe58 (FX58 k)):=
 fe_ok EOK HM (es:=fun k=>fes58 (FX76 k)) (fun k=>fc ⟨ok76 k,fz⟩) (N:=43) (an:=an58) (c:=cd58) (rms:=rm58) (ask:=ask58) (rsk:=rsk58) (enc:=enc58) (dec:=dec58) (tbl:=[p58.getD 0 ⟨0,[], .skip⟩]) (fun s=>rfl) Try.func58 (by kernel_rfl) (by kernel_rfl) (by kernel_rfl) (fun k=>les58 (GX58l0 k))
  (fc ⟨fun s=>by show ite _ _ _=none;split<;>rfl,fz⟩) (fun k s0=> .cons (by kernel_rfl) (by kernel_rfl) (fun s r h=>(e58l0 (GX58l0 k) (FX76 k) s0 s).trans (b58l0 k s.1.1 s.1.2.1 s.1.2.2.1 s.2.1 r h)) (.nil))
  (F:=fun k s=>FX58 k s.1.1 s.2.1) (fun k s r h=>(e58 (GX58l0 k) (FX76 k) s).trans (b58 k s.1.1 s.2.1 r h)) k
noncomputable abbrev GX59l0 (k:Nat) (x0:(List Int)) (x4:Int) (x3:(List Int)):Option R59:=All.galoisref01_pack.l0 k x0 x3 x4
noncomputable abbrev GX59l1 (k:Nat) (x0:(List Int)) (x4:Int) (x5:Int) (x3:(List Int)):Option R59:=All.galoisref01_pack.l1 k x0 x3 x4 x5
theorem b59l0 (k:Nat) (x0:(List Int)) (x4:Int) (x3:(List Int)):LeO (All.galoisref01_pack.l0 (k+1) x0 x3 x4) (B59l0 (GX59l1 k) x0 x4 x3):=by rw [All.galoisref01_pack.l0];unfold B59l0;(try simp only [GX59l0,GX59l1,All.integer_zero.f,All.exact_stepAt.f,All.S24.f0,All.S24.f1,All.rd_T24,All.z24]);exact BR
theorem b59l1 (k:Nat) (x0:(List Int)) (x4:Int) (x5:Int) (x3:(List Int)):LeO (All.galoisref01_pack.l1 (k+1) x0 x3 x4 x5) (B59l1 (GX59l0 k) (GX59l1 k) x0 x4 x5 x3):=by rw [All.galoisref01_pack.l1];unfold B59l1;(try simp only [GX59l0,GX59l1,All.integer_zero.f,All.exact_stepAt.f,All.S24.f0,All.S24.f1,All.rd_T24,All.z24]);exact BR
theorem b59 (k:Nat) (x0:(List Int)):LeO (FX59 k x0) (B59 (GX59l0 k) x0):=by
 show LeO (All.galoisref01_pack.f k x0) _
 unfold All.galoisref01_pack.f;unfold B59;(try simp only [GX59l0,GX59l1,All.integer_zero.f,All.exact_stepAt.f,All.S24.f0,All.S24.f1,All.rd_T24,All.z24]);exact BR
theorem ok59 (k:Nat):FeOk Try.prog (fe59 (FX59 k)):=
 fe_ok EOK HM (es:=fun k=>fes59) (fun k=>fz) (N:=38) (an:=an59) (c:=cd59) (rms:=rm59) (ask:=ask59) (rsk:=rsk59) (enc:=enc59) (dec:=dec59) (tbl:=[p59.getD 0 ⟨0,[], .skip⟩,p59.getD 1 ⟨0,[], .skip⟩]) (fun s=>rfl) Try.func59 (by kernel_rfl) (by kernel_rfl) (by kernel_rfl) (fun k=>les59 (GX59l0 k) (GX59l1 k))
  (fc ⟨fun s=>rfl,fc ⟨fun s=>rfl,fz⟩⟩) (fun k s0=> .cons (by kernel_rfl) (by kernel_rfl) (fun s r h=>(e59l0 (GX59l0 k) (GX59l1 k) s0 s).trans (b59l0 k s.1.1 s.1.2.1 s.2.1 r h)) (.cons (by kernel_rfl) (by kernel_rfl) (fun s r h=>(e59l1 (GX59l0 k) (GX59l1 k) s0 s).trans (b59l1 k s.1.1 s.1.2.1 s.1.2.2.1 s.2.1 r h)) (.nil)))
  (F:=fun k s=>FX59 k s.1.1) (fun k s r h=>(e59 (GX59l0 k) (GX59l1 k) s).trans (b59 k s.1.1 r h)) k
noncomputable abbrev GX30l0 (k:Nat) (x7:(List Int)) (x8:Int) (x11:Int) (x9:(List Int)) (x10:(List Int)):Option R30:=All.galoisref01_DivMod.l0 k x7 x8 x9 x10 x11
noncomputable abbrev GX30l1 (k:Nat) (x7:(List Int)) (x8:Int) (x11:Int) (x9:(List Int)) (x10:(List Int)):Option R30:=All.galoisref01_DivMod.l1 k x7 x8 x9 x10 x11
noncomputable abbrev GX30l2 (k:Nat) (x7:(List Int)) (x8:Int) (x11:Int) (x12:Int) (x13:Int) (x14:Int) (x9:(List Int)) (x10:(List Int)):Option R30:=All.galoisref01_DivMod.l2 k x7 x8 x9 x10 x11 x12 x13 x14
theorem b30l0 (k:Nat) (x7:(List Int)) (x8:Int) (x11:Int) (x9:(List Int)) (x10:(List Int)):LeO (All.galoisref01_DivMod.l0 (k+1) x7 x8 x9 x10 x11) (B30l0 (GX30l1 k) (FX59 k) x7 x8 x11 x9 x10):=by rw [All.galoisref01_DivMod.l0];unfold B30l0;(try simp only [GX30l0,GX30l1,GX30l2,FX57,FX58,FX59,All.integer_zero.f,All.exact_stepAt.f,All.S24.f0,All.S24.f1,All.rd_T24,All.z24]);exact BR
theorem b30l1 (k:Nat) (x7:(List Int)) (x8:Int) (x11:Int) (x9:(List Int)) (x10:(List Int)):LeO (All.galoisref01_DivMod.l1 (k+1) x7 x8 x9 x10 x11) (B30l1 (GX30l0 k) (GX30l2 k) (FX58 k) x7 x8 x11 x9 x10):=by rw [All.galoisref01_DivMod.l1];unfold B30l1;(try simp only [GX30l0,GX30l1,GX30l2,FX57,FX58,FX59,All.integer_zero.f,All.exact_stepAt.f,All.S24.f0,All.S24.f1,All.rd_T24,All.z24]);exact BR
theorem b30l2 (k:Nat) (x7:(List Int)) (x8:Int) (x11:Int) (x12:Int) (x13:Int) (x14:Int) (x9:(List Int)) (x10:(List Int)):LeO (All.galoisref01_DivMod.l2 (k+1) x7 x8 x9 x10 x11 x12 x13 x14) (B30l2 (GX30l1 k) (GX30l2 k) x7 x8 x11 x12 x13 x14 x9 x10):=by rw [All.galoisref01_DivMod.l2];unfold B30l2;(try simp only [GX30l0,GX30l1,GX30l2,FX57,FX58,FX59,All.integer_zero.f,All.exact_stepAt.f,All.S24.f0,All.S24.f1,All.rd_T24,All.z24]);exact BR
theorem b30 (k:Nat) (x0:ByteArray) (x1:ByteArray):LeO (FX30 k x0 x1) (B30 (GX30l0 k) (FX57 k) x0 x1):=by
 show LeO (All.galoisref01_DivMod.f k x0 x1) _
 unfold All.galoisref01_DivMod.f;unfold B30;(try simp only [GX30l0,GX30l1,GX30l2,FX57,FX58,FX59,All.integer_zero.f,All.exact_stepAt.f,All.S24.f0,All.S24.f1,All.rd_T24,All.z24]);exact BR
theorem ok30 (k:Nat):FeOk Try.prog (fe30 (FX30 k)):=
 fe_ok EOK HM (es:=fun k=>fes30 (FX57 k) (FX58 k) (FX59 k)) (fun k=>fc ⟨ok57 k,fc ⟨ok58 k,fc ⟨ok59 k,fz⟩⟩⟩) (N:=148) (an:=an30) (c:=cd30) (rms:=rm30) (ask:=ask30) (rsk:=rsk30) (enc:=enc30) (dec:=dec30) (tbl:=[p30.getD 0 ⟨0,[], .skip⟩,p30.getD 1 ⟨0,[], .skip⟩,p30.getD 2 ⟨0,[], .skip⟩]) (fun s=>rfl) Try.func30 (by kernel_rfl) (by kernel_rfl) (by kernel_rfl) (fun k=>les30 (GX30l0 k) (GX30l1 k) (GX30l2 k))
  (fc ⟨fun s=>rfl,fc ⟨fun s=>rfl,fc ⟨fun s=>rfl,fz⟩⟩⟩) (fun k s0=> .cons (by kernel_rfl) (by kernel_rfl) (fun s r h=>(e30l0 (GX30l0 k) (GX30l1 k) (GX30l2 k) (FX57 k) (FX58 k) (FX59 k) s0 s).trans (b30l0 k s.1.1 s.1.2.1 s.1.2.2.1 s.2.1 s.2.2.1 r h)) (.cons (by kernel_rfl) (by kernel_rfl) (fun s r h=>(e30l1 (GX30l0 k) (GX30l1 k) (GX30l2 k) (FX57 k) (FX58 k) (FX59 k) s0 s).trans (b30l1 k s.1.1 s.1.2.1 s.1.2.2.1 s.2.1 s.2.2.1 r h)) (.cons (by kernel_rfl) (by kernel_rfl) (fun s r h=>(e30l2 (GX30l0 k) (GX30l1 k) (GX30l2 k) (FX57 k) (FX58 k) (FX59 k) s0 s).trans (b30l2 k s.1.1 s.1.2.1 s.1.2.2.1 s.1.2.2.2.1 s.1.2.2.2.2.1 s.1.2.2.2.2.2.1 s.2.1 s.2.2.1 r h)) (.nil))))
  (F:=fun k s=>FX30 k s.1.1 s.1.2.1) (fun k s r h=>(e30 (GX30l0 k) (GX30l1 k) (GX30l2 k) (FX57 k) (FX58 k) (FX59 k) s).trans (b30 k s.1.1 s.1.2.1 r h)) k
noncomputable abbrev GX29l0 (k:Nat) (x0:ByteArray) (x1:ByteArray):Option R29:=All.galoisref01_Gcd.l0 k x0 x1
theorem b29l0 (k:Nat) (x0:ByteArray) (x1:ByteArray):LeO (All.galoisref01_Gcd.l0 (k+1) x0 x1) (B29l0 (GX29l0 k) (FX30 k) x0 x1):=by rw [All.galoisref01_Gcd.l0];unfold B29l0;(try simp only [GX29l0,FX30,All.integer_zero.f,All.exact_stepAt.f,All.S24.f0,All.S24.f1,All.rd_T24,All.z24]);exact BR
theorem b29 (k:Nat) (x0:ByteArray) (x1:ByteArray):LeO (FX29 k x0 x1) (B29 (GX29l0 k) x0 x1):=by
 show LeO (All.galoisref01_Gcd.f k x0 x1) _
 unfold All.galoisref01_Gcd.f;unfold B29;(try simp only [GX29l0,FX30,All.integer_zero.f,All.exact_stepAt.f,All.S24.f0,All.S24.f1,All.rd_T24,All.z24]);exact BR
theorem ok29 (k:Nat):FeOk Try.prog (fe29 (FX29 k)):=
 fe_ok EOK HM (es:=fun k=>fes29 (FX30 k)) (fun k=>fc ⟨ok30 k,fz⟩) (N:=18) (an:=an29) (c:=cd29) (rms:=rm29) (ask:=ask29) (rsk:=rsk29) (enc:=enc29) (dec:=dec29) (tbl:=[p29.getD 0 ⟨0,[], .skip⟩]) (fun s=>rfl) Try.func29 (by kernel_rfl) (by kernel_rfl) (by kernel_rfl) (fun k=>les29 (GX29l0 k))
  (fc ⟨fun s=>rfl,fz⟩) (fun k s0=> .cons (by kernel_rfl) (by kernel_rfl) (fun s r h=>(e29l0 (GX29l0 k) (FX30 k) s0 s).trans (b29l0 k s.1.1 s.1.2.1 r h)) (.nil))
  (F:=fun k s=>FX29 k s.1.1 s.1.2.1) (fun k s r h=>(e29 (GX29l0 k) (FX30 k) s).trans (b29 k s.1.1 s.1.2.1 r h)) k
theorem b31 (k:Nat) (x0:Bool) (x1:ByteArray):LeO (FX31 k x0 x1) (B31 x0 x1):=by
 show LeO (All.galoisref02_Make.f x0 x1) _
 unfold All.galoisref02_Make.f;unfold B31;(try simp only [All.integer_zero.f,All.exact_stepAt.f,All.S24.f0,All.S24.f1,All.rd_T24,All.z24]);exact BR
theorem ok31 (k:Nat):FeOk Try.prog (fe31 (FX31 k)):=
 fe_ok EOK HM (es:=fun k=>fes31) (fun k=>fz) (N:=12) (an:=an31) (c:=cd31) (rms:=rm31) (ask:=ask31) (rsk:=rsk31) (enc:=enc31) (dec:=dec31) (tbl:=[]) (fun s=>rfl) Try.func31 (by kernel_rfl) (by kernel_rfl) (by kernel_rfl) (fun k=>les31)
  (fz) (fun k s0=> .nil)
  (F:=fun k s=>FX31 k s.1.1 s.1.2.1) (fun k s r h=>(e31 s).trans (b31 k s.1.1 s.1.2.1 r h)) k
theorem b12 (k:Nat) (x0:TI) (x1:TI):LeO (FX12 k x0 x1) (B12 (FX29 k) (FX30 k) (FX31 k) x0 x1):=LeO.refl _
theorem ok12 (k:Nat):FeOk Try.prog (fe12 (FX12 k)):=
 fe_ok EOK HM (es:=fun k=>fes12 (FX29 k) (FX30 k) (FX31 k)) (fun k=>fc ⟨ok29 k,fc ⟨ok30 k,fc ⟨ok31 k,fz⟩⟩⟩) (N:=42) (an:=an12) (c:=cd12) (rms:=rm12) (ask:=ask12) (rsk:=rsk12) (enc:=enc12) (dec:=dec12) (tbl:=[]) (fun s=>rfl) Try.func12 (by kernel_rfl) (by kernel_rfl) (by kernel_rfl) (fun k=>les12)
  (fz) (fun k s0=> .nil)
  (F:=fun k s=>FX12 k s.1.1 s.1.2.1) (fun k s r h=>(e12 (FX29 k) (FX30 k) (FX31 k) s).trans (b12 k s.1.1 s.1.2.1 r h)) k
theorem b47 (k:Nat) (x0:Int):LeO (FX47 k x0) (B47 (FX59 k) x0):=by
 show LeO (All.galoisref01_Of.f k x0) _
 unfold All.galoisref01_Of.f;unfold B47;(try simp only [FX59,All.integer_zero.f,All.exact_stepAt.f,All.S24.f0,All.S24.f1,All.rd_T24,All.z24]);exact BR
theorem ok47 (k:Nat):FeOk Try.prog (fe47 (FX47 k)):=
 fe_ok EOK HM (es:=fun k=>fes47 (FX59 k)) (fun k=>fc ⟨ok59 k,fz⟩) (N:=9) (an:=an47) (c:=cd47) (rms:=rm47) (ask:=ask47) (rsk:=rsk47) (enc:=enc47) (dec:=dec47) (tbl:=[]) (fun s=>rfl) Try.func47 (by kernel_rfl) (by kernel_rfl) (by kernel_rfl) (fun k=>les47)
  (fz) (fun k s0=> .nil)
  (F:=fun k s=>FX47 k s.1.1) (fun k s r h=>(e47 (FX59 k) s).trans (b47 k s.1.1 r h)) k
theorem b19 (k:Nat) (x0:Int):LeO (FX19 k x0) (B19 (FX47 k) x0):=by
 show LeO (All.galoisref02_FromInt.f k x0) _
 unfold All.galoisref02_FromInt.f;unfold B19;(try simp only [FX47,All.integer_zero.f,All.exact_stepAt.f,All.S24.f0,All.S24.f1,All.rd_T24,All.z24]);exact BR
theorem ok19 (k:Nat):FeOk Try.prog (fe19 (FX19 k)):=
 fe_ok EOK HM (es:=fun k=>fes19 (FX47 k)) (fun k=>fc ⟨ok47 k,fz⟩) (N:=16) (an:=an19) (c:=cd19) (rms:=rm19) (ask:=ask19) (rsk:=rsk19) (enc:=enc19) (dec:=dec19) (tbl:=[]) (fun s=>rfl) Try.func19 (by kernel_rfl) (by kernel_rfl) (by kernel_rfl) (fun k=>les19)
  (fz) (fun k s0=> .nil)
  (F:=fun k s=>FX19 k s.1.1) (fun k s r h=>(e19 (FX47 k) s).trans (b19 k s.1.1 r h)) k
theorem b26 (k:Nat) (x0:Int) (x1:Int):LeO (FX26 k x0 x1) (B26 (FX12 k) (FX19 k) x0 x1):=LeO.refl _
theorem ok26 (k:Nat):FeOk Try.prog (fe26 (FX26 k)):=
 fe_ok EOK HM (es:=fun k=>fes26 (FX12 k) (FX19 k)) (fun k=>fc ⟨ok12 k,fc ⟨ok19 k,fz⟩⟩) (N:=10) (an:=an26) (c:=cd26) (rms:=rm26) (ask:=ask26) (rsk:=rsk26) (enc:=enc26) (dec:=dec26) (tbl:=[]) (fun s=>rfl) Try.func26 (by kernel_rfl) (by kernel_rfl) (by kernel_rfl) (fun k=>les26)
  (fz) (fun k s0=> .nil)
  (F:=fun k s=>FX26 k s.1.1 s.1.2.1) (fun k s r h=>(e26 (FX12 k) (FX19 k) s).trans (b26 k s.1.1 s.1.2.1 r h)) k
theorem b9 (k:Nat) (x0:Int) (x1:Int):LeO (FX9 k x0 x1) (B9 (FX26 k) x0 x1):=LeO.refl _
theorem ok9 (k:Nat):FeOk Try.prog (fe9 (FX9 k)):=
 fe_ok EOK HM (es:=fun k=>fes9 (FX26 k)) (fun k=>fc ⟨ok26 k,fz⟩) (N:=8) (an:=an9) (c:=cd9) (rms:=rm9) (ask:=ask9) (rsk:=rsk9) (enc:=enc9) (dec:=dec9) (tbl:=[]) (fun s=>rfl) Try.func9 (by kernel_rfl) (by kernel_rfl) (by kernel_rfl) (fun k=>les9)
  (fz) (fun k s0=> .nil)
  (F:=fun k s=>FX9 k s.1.1 s.1.2.1) (fun k s r h=>(e9 (FX26 k) s).trans (b9 k s.1.1 s.1.2.1 r h)) k
theorem b51 (k:Nat) (x0:TQ):LeO (FX51 k x0) (B51 x0):=LeO.refl _
theorem ok51 (k:Nat):FeOk Try.prog (fe51 (FX51 k)):=
 fe_ok EOK HM (es:=fun k=>fes51) (fun k=>fz) (N:=14) (an:=an51) (c:=cd51) (rms:=rm51) (ask:=ask51) (rsk:=rsk51) (enc:=enc51) (dec:=dec51) (tbl:=[]) (fun s=>rfl) Try.func51 (by kernel_rfl) (by kernel_rfl) (by kernel_rfl) (fun k=>les51)
  (fz) (fun k s0=> .nil)
  (F:=fun k s=>FX51 k s.1.1) (fun k s r h=>(e51 s).trans (b51 k s.1.1 r h)) k
theorem b22 (k:Nat) (x0:TQ):LeO (FX22 k x0) (B22 (FX51 k) x0):=LeO.refl _
theorem ok22 (k:Nat):FeOk Try.prog (fe22 (FX22 k)):=
 fe_ok EOK HM (es:=fun k=>fes22 (FX51 k)) (fun k=>fc ⟨ok51 k,fz⟩) (N:=8) (an:=an22) (c:=cd22) (rms:=rm22) (ask:=ask22) (rsk:=rsk22) (enc:=enc22) (dec:=dec22) (tbl:=[]) (fun s=>rfl) Try.func22 (by kernel_rfl) (by kernel_rfl) (by kernel_rfl) (fun k=>les22)
  (fz) (fun k s0=> .nil)
  (F:=fun k s=>FX22 k s.1.1) (fun k s r h=>(e22 (FX51 k) s).trans (b22 k s.1.1 r h)) k
theorem b24 (k:Nat) (x0:TI):LeO (FX24 k x0) (B24 x0):=LeO.refl _
theorem ok24 (k:Nat):FeOk Try.prog (fe24 (FX24 k)):=
 fe_ok EOK HM (es:=fun k=>fes24) (fun k=>fz) (N:=5) (an:=an24) (c:=cd24) (rms:=rm24) (ask:=ask24) (rsk:=rsk24) (enc:=enc24) (dec:=dec24) (tbl:=[]) (fun s=>rfl) Try.func24 (by kernel_rfl) (by kernel_rfl) (by kernel_rfl) (fun k=>les24)
  (fz) (fun k s0=> .nil)
  (F:=fun k s=>FX24 k s.1.1) (fun k s r h=>(e24 s).trans (b24 k s.1.1 r h)) k
noncomputable abbrev GX69l0 (k:Nat) (x8:Int) (x27:Int) (x28:Int) (x5:(List Int)) (x6:(List Int)) (x7:(List Int)):Option R69:=All.exact_NatAdd.l0 k x5 x6 x7 x8 x27 x28
theorem b69l0 (k:Nat) (x8:Int) (x27:Int) (x28:Int) (x5:(List Int)) (x6:(List Int)) (x7:(List Int)):LeO (All.exact_NatAdd.l0 (k+1) x5 x6 x7 x8 x27 x28) (B69l0 (GX69l0 k) (FX75 k) (FX83 k) x8 x27 x28 x5 x6 x7):=by
 rw [All.exact_NatAdd.l0]
 unfold B69l0
 (try simp only [GX69l0,FX73,FX75,FX83,All.integer_zero.f,All.exact_stepAt.f,All.S24.f0,All.S24.f1,All.rd_T24,All.z24])
 (try simp only [List.take_append_drop,List.drop_length,List.append_nil,Int.zero_sub,Int.toNat_natCast,Int.reduceToNat,Int.zero_add,List.take_zero,List.nil_append,List.append_assoc,List.length_set,ite_bind_,List.take_left,BAe,bne,decide_int_eq,decide_not,wrap_mod,if_true,if_false,Bool.false_eq_true,bind_assoc_,slice_def,List.drop_zero,List.take_length,wrap_u8,bind_some_,cnd_eq_if,rdOf,ite_not,Bool.and_eq_true,Bool.or_eq_true,Bool.not_eq_true',bfalse,Bool.not_eq_false',beq_iff_eq,decide_eq_true_eq,isEmpty_eq,ite_and_,ite_or_,ne_eq,toList_mk,List.toList_toArray])
 repeat' first
 | (with_reducible refine LeO.trans ((All.exact_NatAdd.mono_l k).1 _ _) ?_;rw [All.exact_NatAdd.j0];(try simp only [if_true,if_false,decide_eq_true_eq,Bool.false_eq_true,decide_not,ite_not,bne,decide_int_eq,beq_iff_eq,Bool.not_eq_true',bfalse,toList_mk,List.toList_toArray,ite_and_,ite_or_,Bool.and_eq_true,Bool.or_eq_true,isEmpty_eq,wrap_mod,wrap_u8,All.integer_zero.f,bind_some_,Int.toNat_natCast,Int.reduceToNat,Int.zero_sub,BAe]))
 | (with_reducible exact LeO.none _)
 | (with_reducible exact LeO.refl _)
 | (with_reducible refine LeO.posR (by with_reducible assumption) ?_)
 | (with_reducible refine LeO.negR (by with_reducible assumption) ?_)
 | (with_reducible refine LeO.bindR (by with_reducible assumption) ?_)
 | (with_reducible refine LeO.posL (by with_reducible assumption) ?_)
 | (with_reducible refine LeO.negL (by with_reducible assumption) ?_)
 | (with_reducible refine LeO.iteL (fun _=>?_) (fun _=>?_))
 | (with_reducible refine LeO.bindK (by with_reducible assumption) ?_)
 | (with_reducible refine LeO.bindL (fun _ _=>?_))
 | (refine LeO.posR (by first|decide|exact Int.le_refl _|omega|assumption) ?_)
 | (refine LeO.negR (by first|decide|omega) ?_)
end Go.Proofs.YtjllholdppjllaaV
