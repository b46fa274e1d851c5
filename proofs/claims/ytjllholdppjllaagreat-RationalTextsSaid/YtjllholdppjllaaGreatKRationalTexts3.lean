/- Part of the proof of the statement RationalTexts: lemmas on the model's steps, Lean functions that say what the program's functions compute, and proofs that the calls do just that. No hypothesis is added. -/
import Derived.Test.YtjllholdppjllaaGreatKRationalTexts2
set_option linter.all false
set_option maxRecDepth 100000
namespace Go.Proofs.YtjllholdppjllaaGreatV
open Go Go.RowKit YtjllholdppjllaaGreatE YtjllholdppjllaaGreatW.PrintWords YtjllholdppjllaaGreatW.PrintLast YtjllholdppjllaaGreatW.PrintMore
section
variable (gl0:(List Int)→(List Int)→Int→Int→(List Int)→Option R130) (gl1:Int→(List Int)→Int→Int→(List Int)→(List Int)→Option R130) (gl2:Int→Int→Int→Int→(List Int)→(List Int)→Option R130) (c152:(List Int)→Option R152) (c153:(List Int)→(List Int)→Option R153) (c154:Int→Int→Int→Option R154) (c155:Int→Option R155) (c156:(List Int)→Int→Option R156) (c157:(List Int)→(List Int)→Option R157)
noncomputable def B130l0 (x0:(List Int)) (x1:(List Int)) (x7:Int) (x8:Int) (x6:(List Int)):Option R130:=if x8≥0 then(if 0≤x8 then(if x8<(x0.length:Int)then(if(0:Int)≤0 then(if 0<(x1.length:Int)then((c154 x7 (rd x0 x8) (rd x1 0)).bind fun r1=>(if 0≤x8 then(if x8<(x6.length:Int)then(gl0 x0 x1 r1.2 (wrap64 (x8-1)) (x6.set (x8:Int).toNat r1.1))else(none))else(none)))else(none))else(none))else(none))else(none))else((c152 x6).bind fun r2=>((c152 ([x7]:List Int)).bind fun r3=>(some (r2.2.take (r2.1:Int).toNat,r3.2.take (r3.1:Int).toNat))))
theorem e130l0 (s0:SbT ask130.bl) (s:k130l0.T):evPos E0 (orcOf (fes130 c152 c153 c154 c155 c156 c157)) 137 an130 (loOf (les130 gl0 gl1 gl2)) (rk130 s0) (p130.getD 0 ⟨0,[], .skip⟩) (k130l0.mk' s)=B130l0 gl0 c152 c154 s.1.1 s.1.2.1 s.1.2.2.1 s.1.2.2.2.1 s.2.1:=by kernel_rfl
noncomputable def B130l1 (x9:Int) (x10:(List Int)) (x12:Int) (x14:Int) (x11:(List Int)) (x13:(List Int)):Option R130:=if x14≥0 then(if 0≤x14 then(if x14≤wrap64 ((wrap64 (x14+x12))+1)then(if wrap64 ((wrap64 (x14+x12))+1)≤(x11.length:Int)then(if(x11.length:Int)≤(x11.length:Int)then((c157 x10 (slice_ x11 x14 (wrap64 ((wrap64 (x14+x12))+1)))).bind fun r1=>(if 0≤x14 then(if x14<(x13.length:Int)then(gl1 x9 x10 x12 (wrap64 (x14-1)) (x11.take ((x14:Int).toNat)++r1.2++x11.drop ((wrap64 ((wrap64 (x14+x12))+1):Int).toNat)) (x13.set (x14:Int).toNat r1.1))else(none))else(none)))else(none))else(none))else(none))else(none))else(gl2 x9 x12 x12 0 x11 x13)
theorem e130l1 (s0:SbT ask130.bl) (s:k130l1.T):evPos E0 (orcOf (fes130 c152 c153 c154 c155 c156 c157)) 137 an130 (loOf (les130 gl0 gl1 gl2)) (rk130 s0) (p130.getD 1 ⟨0,[], .skip⟩) (k130l1.mk' s)=B130l1 gl1 gl2 c157 s.1.1 s.1.2.1 s.1.2.2.1 s.1.2.2.2.1 s.2.1 s.2.2.1:=by kernel_rfl
noncomputable def B130l2 (x9:Int) (x12:Int) (x96:Int) (x97:Int) (x11:(List Int)) (x13:(List Int)):Option R130:=if x97<x96 then(if 0≤x97 then(if x97<(x11.length:Int)then(if 0≤x9 then(if 0≤x97 then(if x97<(x11.length:Int)then(if x9>0 then(if wrap64 (x97+1)<((x11.set (x97:Int).toNat (shr .u64 (rd x11 x97) x9)).length:Int)then(if 0≤x97 then(if x97<((x11.set (x97:Int).toNat (shr .u64 (rd x11 x97) x9)).length:Int)then(if 0≤wrap64 (x97+1)then(if wrap64 (x97+1)<((x11.set (x97:Int).toNat (shr .u64 (rd x11 x97) x9)).length:Int)then(if 0≤wrap64 (64-x9)then(if 0≤x97 then(if x97<((x11.set (x97:Int).toNat (shr .u64 (rd x11 x97) x9)).length:Int)then(gl2 x9 x12 x96 (wrap64 (x97+1)) ((x11.set (x97:Int).toNat (shr .u64 (rd x11 x97) x9)).set (x97:Int).toNat (Go.bits .or .u64 (rd (x11.set (x97:Int).toNat (shr .u64 (rd x11 x97) x9)) x97) (shl .u64 (rd (x11.set (x97:Int).toNat (shr .u64 (rd x11 x97) x9)) (wrap64 (x97+1))) (wrap64 (64-x9))))) x13)else(none))else(none))else(none))else(none))else(none))else(none))else(none))else(gl2 x9 x12 x96 (wrap64 (x97+1)) (x11.set (x97:Int).toNat (shr .u64 (rd x11 x97) x9)) x13))else(gl2 x9 x12 x96 (wrap64 (x97+1)) (x11.set (x97:Int).toNat (shr .u64 (rd x11 x97) x9)) x13))else(none))else(none))else(none))else(none))else(none))else((c152 x13).bind fun r1=>(if(0:Int)≤0 then(if 0≤x12 then(if x12≤(x11.length:Int)then(if(x11.length:Int)≤(x11.length:Int)then((c152 (slice_ x11 0 x12)).bind fun r2=>(some (r1.2.take (r1.1:Int).toNat,slice_ (x11.take ((0:Int).toNat)++r2.2++x11.drop ((x12:Int).toNat)) 0 (0+r2.1))))else(none))else(none))else(none))else(none)))
theorem e130l2 (s0:SbT ask130.bl) (s:k130l2.T):evPos E0 (orcOf (fes130 c152 c153 c154 c155 c156 c157)) 137 an130 (loOf (les130 gl0 gl1 gl2)) (rk130 s0) (p130.getD 2 ⟨0,[], .skip⟩) (k130l2.mk' s)=B130l2 gl2 c152 s.1.1 s.1.2.1 s.1.2.2.1 s.1.2.2.2.1 s.2.1 s.2.2.1:=by kernel_rfl
noncomputable def B130 (x0:(List Int)) (x1:(List Int)):Option R130:=(c153 x0 x1).bind fun r1=>(if r1<0 then(some (([]:List Int),x0))else(if(x1.length:Int)=1 then(if 0≤(x0.length:Int)then(if(x0.length:Int)≤(x0.length:Int)then(if((x0.length:Int):Int).toNat≤35184372088832 then(gl0 x0 x1 0 (wrap64 ((x0.length:Int)-1)) (List.replicate ((x0.length:Int):Int).toNat (0:Int)))else(none))else(none))else(none))else(if 0≤wrap64 ((x1.length:Int)-1)then(if wrap64 ((x1.length:Int)-1)<(x1.length:Int)then((c155 (rd x1 (wrap64 ((x1.length:Int)-1)))).bind fun r2=>((c156 x1 r2).bind fun r3=>((c152 r3).bind fun r4=>((c156 x0 r2).bind fun r5=>(if 0≤wrap64 ((wrap64 ((x0.length:Int)-((r4.2.take (r4.1:Int).toNat).length:Int)))+1)then(if wrap64 ((wrap64 ((x0.length:Int)-((r4.2.take (r4.1:Int).toNat).length:Int)))+1)≤wrap64 ((wrap64 ((x0.length:Int)-((r4.2.take (r4.1:Int).toNat).length:Int)))+1)then(if(wrap64 ((wrap64 ((x0.length:Int)-((r4.2.take (r4.1:Int).toNat).length:Int)))+1):Int).toNat≤35184372088832 then(gl1 r2 (r4.2.take (r4.1:Int).toNat) ((r4.2.take (r4.1:Int).toNat).length:Int) (wrap64 ((x0.length:Int)-((r4.2.take (r4.1:Int).toNat).length:Int))) r5 (List.replicate (wrap64 ((wrap64 ((x0.length:Int)-((r4.2.take (r4.1:Int).toNat).length:Int)))+1):Int).toNat (0:Int)))else(none))else(none))else(none))))))else(none))else(none))))
theorem e130 (s:ask130.T):evFn E0 (orcOf (fes130 c152 c153 c154 c155 c156 c157)) an130 (loOf (les130 gl0 gl1 gl2)) 137 cd130 Tryz.f130.results.toList rm130 (ask130.mk' s) (decW rsk130 dec130)=B130 gl0 gl1 c152 c153 c155 c156 s.1.1 s.1.2.1:=by kernel_rfl
end
noncomputable def an152v:Ann:=⟨[(2,[(0, .any),(3, .any)])],[],[]⟩
noncomputable def cd152v:Code:=(Tryz.f152.body).getD .skip
noncomputable def p152v:List Pos:=posns an152v [] cd152v
noncomputable def rm152v:List RM:=[.sh]
noncomputable def rk152v (s0:SbT ask152v.bl):KX R152v:=retK E0 Tryz.f152.results.toList rm152v (mkB ask152v.bl s0) (decW rsk152v dec152v)
noncomputable def k152vl0:Sk:=⟨[(0, .d (.li (.it .u64))),(3, .d (.it .i64))],[]⟩
noncomputable def les152v (gl0:(List Int)→Int→Option R152v):List (LoE R152v):=[⟨2,k152vl0,fun s=>gl0 s.1.1 s.1.2.1⟩]
noncomputable def fes152v:List FE:=[]
section
variable (gl0:(List Int)→Int→Option R152v)
noncomputable def B152vl0 (x0:(List Int)) (x3:Int):Option R152v:=if x3>0 then(if 0≤wrap64 (x3-1)then(if wrap64 (x3-1)<(x0.length:Int)then(if rd x0 (wrap64 (x3-1))=0 then(gl0 x0 (wrap64 (x3-1)))else(if(0:Int)≤0 then(if 0≤x3 then(if x3≤(x0.length:Int)then(if(x0.length:Int)≤(x0.length:Int)then(some (slice_ x0 0 x3))else(none))else(none))else(none))else(none)))else(none))else(none))else(if(0:Int)≤0 then(if 0≤x3 then(if x3≤(x0.length:Int)then(if(x0.length:Int)≤(x0.length:Int)then(some (slice_ x0 0 x3))else(none))else(none))else(none))else(none))
theorem e152vl0 (s0:SbT ask152v.bl) (s:k152vl0.T):evPos E0 (orcOf (fes152v)) 21 an152v (loOf (les152v gl0)) (rk152v s0) (p152v.getD 0 ⟨0,[], .skip⟩) (k152vl0.mk' s)=B152vl0 gl0 s.1.1 s.1.2.1:=by kernel_rfl
noncomputable def B152v (x0:(List Int)):Option R152v:=gl0 x0 (x0.length:Int)
theorem e152v (s:ask152v.T):evFn E0 (orcOf (fes152v)) an152v (loOf (les152v gl0)) 21 cd152v Tryz.f152.results.toList rm152v (ask152v.mk' s) (decW rsk152v dec152v)=B152v gl0 s.1.1:=by kernel_rfl
end
noncomputable def an131:Ann:=⟨[(6,[(3, .any),(17, .any),(18, .any),(19, .any)]),(9,[(3, .any),(4, .any),(5, .any),(17, .any),(18, .any),(19, .any),(24, .any)]),(15,[(3, .any),(7, .any)])],[],[]⟩
noncomputable def cd131:Code:=(Tryz.f131.body).getD .skip
noncomputable def p131:List Pos:=posns an131 [] cd131
noncomputable def rm131:List RM:=[.d .st]
noncomputable def rk131 (s0:SbT ask131.bl):KX R131:=retK E0 Tryz.f131.results.toList rm131 (mkB ask131.bl s0) (decW rsk131 dec131)
noncomputable def k131l0:Sk:=⟨[(3, .f (.a (.ref 3))),(17, .d (.li (.it .u64))),(18, .d (.it .i64)),(19, .d (.it .i64))],[(3, .own (.it .u8) true)]⟩
noncomputable def k131l1:Sk:=⟨[(3, .f (.a (.ref 3))),(4, .d (.it .i64)),(5, .d (.it .u64)),(17, .d (.li (.it .u64))),(18, .d (.it .i64)),(19, .d (.it .i64)),(24, .d (.it .i64))],[(3, .own (.it .u8) true)]⟩
noncomputable def k131l2:Sk:=⟨[(3, .f (.a (.ref 3))),(7, .d (.it .i64))],[(3, .own (.it .u8) true)]⟩
noncomputable def les131 (gl0:(List Int)→Int→Int→(List Int)→Option R131) (gl1:Int→Int→(List Int)→Int→Int→Int→(List Int)→Option R131) (gl2:Int→(List Int)→Option R131):List (LoE R131):=[⟨6,k131l0,fun s=>gl0 s.1.1 s.1.2.1 s.1.2.2.1 s.2.1⟩,⟨9,k131l1,fun s=>gl1 s.1.1 s.1.2.1 s.1.2.2.1 s.1.2.2.2.1 s.1.2.2.2.2.1 s.1.2.2.2.2.2.1 s.2.1⟩,⟨15,k131l2,fun s=>gl2 s.1.1 s.2.1⟩]
noncomputable def fes131 (c152v:(List Int)→Option R152v):List FE:=[(fe152v c152v)]
section
variable (gl0:(List Int)→Int→Int→(List Int)→Option R131) (gl1:Int→Int→(List Int)→Int→Int→Int→(List Int)→Option R131) (gl2:Int→(List Int)→Option R131) (c152v:(List Int)→Option R152v)
noncomputable def B131l0 (x17:(List Int)) (x18:Int) (x19:Int) (x3:(List Int)):Option R131:=if x19<x18 then(if 0≤x19 then(if x19<(x17.length:Int)then(gl1 x19 (rd x17 x19) x17 x18 x19 0 x3)else(none))else(none))else(gl2 0 x3)
theorem e131l0 (s0:SbT ask131.bl) (s:k131l0.T):evPos E0 (orcOf (fes131 c152v)) 55 an131 (loOf (les131 gl0 gl1 gl2)) (rk131 s0) (p131.getD 0 ⟨0,[], .skip⟩) (k131l0.mk' s)=B131l0 gl1 gl2 s.1.1 s.1.2.1 s.1.2.2.1 s.2.1:=by kernel_rfl
noncomputable def B131l1 (x4:Int) (x5:Int) (x17:(List Int)) (x18:Int) (x19:Int) (x24:Int) (x3:(List Int)):Option R131:=if x24<8 then(if 0≤wrap64 (8*x24)then(if 0≤wrap64 ((wrap64 ((wrap64 ((x3.length:Int)-1))-(wrap64 (8*x4))))-x24)then(if wrap64 ((wrap64 ((wrap64 ((x3.length:Int)-1))-(wrap64 (8*x4))))-x24)<(x3.length:Int)then(gl1 x4 x5 x17 x18 x19 (wrap64 (x24+1)) (x3.set (wrap64 ((wrap64 ((wrap64 ((x3.length:Int)-1))-(wrap64 (8*x4))))-x24):Int).toNat (IntKind.u8.wrap (shr .u64 x5 (wrap64 (8*x24))))))else(none))else(none))else(none))else(gl0 x17 x18 (wrap64 (x19+1)) x3)
theorem e131l1 (s0:SbT ask131.bl) (s:k131l1.T):evPos E0 (orcOf (fes131 c152v)) 55 an131 (loOf (les131 gl0 gl1 gl2)) (rk131 s0) (p131.getD 1 ⟨0,[], .skip⟩) (k131l1.mk' s)=B131l1 gl0 gl1 s.1.1 s.1.2.1 s.1.2.2.1 s.1.2.2.2.1 s.1.2.2.2.2.1 s.1.2.2.2.2.2.1 s.2.1:=by kernel_rfl
noncomputable def B131l2 (x7:Int) (x3:(List Int)):Option R131:=if 0≤x7 then(if x7<(x3.length:Int)then(if rd x3 x7=0 then(gl2 (wrap64 (x7+1)) x3)else(if 0≤x7 then(if x7≤(x3.length:Int)then(if(x3.length:Int)≤(x3.length:Int)then(if(x3.length:Int)≤(x3.length:Int)then(some (strOfNums (slice_ x3 x7 (x3.length:Int))))else(none))else(none))else(none))else(none)))else(none))else(none)
theorem e131l2 (s0:SbT ask131.bl) (s:k131l2.T):evPos E0 (orcOf (fes131 c152v)) 55 an131 (loOf (les131 gl0 gl1 gl2)) (rk131 s0) (p131.getD 2 ⟨0,[], .skip⟩) (k131l2.mk' s)=B131l2 gl2 s.1.1 s.2.1:=by kernel_rfl
noncomputable def B131 (x0:(List Int)):Option R131:=(c152v x0).bind fun r1=>(if(r1.length:Int)=0 then(some (⟨#[]⟩:ByteArray))else(if 0≤wrap64 (8*(r1.length:Int))then(if wrap64 (8*(r1.length:Int))≤wrap64 (8*(r1.length:Int))then(if(wrap64 (8*(r1.length:Int)):Int).toNat≤281474976710656 then(gl0 r1 (r1.length:Int) 0 (List.replicate (wrap64 (8*(r1.length:Int)):Int).toNat (0:Int)))else(none))else(none))else(none)))
theorem e131 (s:ask131.T):evFn E0 (orcOf (fes131 c152v)) an131 (loOf (les131 gl0 gl1 gl2)) 55 cd131 Tryz.f131.results.toList rm131 (ask131.mk' s) (decW rsk131 dec131)=B131 gl0 c152v s.1.1:=by kernel_rfl
end
noncomputable def an85:Ann:=⟨[(2,[(5, .val (.li (.it .u64))),(6, .val (.li (.it .u64)))])],[],[]⟩
noncomputable def cd85:Code:=(Tryz.f85.body).getD .skip
noncomputable def p85:List Pos:=posns an85 [] cd85
noncomputable def rm85:List RM:=[.d .st]
noncomputable def rk85 (s0:SbT ask85.bl):KX R85:=retK E0 Tryz.f85.results.toList rm85 (mkB ask85.bl s0) (decW rsk85 dec85)
noncomputable def k85l0:Sk:=⟨[(5, .d (.li (.it .u64))),(6, .d (.li (.it .u64)))],[]⟩
noncomputable def les85 (gl0:(List Int)→(List Int)→Option R85):List (LoE R85):=[⟨2,k85l0,fun s=>gl0 s.1.1 s.1.2.1⟩]
noncomputable def fes85 (c129:ByteArray→Option R129) (c130:(List Int)→(List Int)→Option R130) (c131:(List Int)→Option R131):List FE:=[(fe129 c129),(fe130 c130),(fe131 c131)]
section
variable (gl0:(List Int)→(List Int)→Option R85) (c129:ByteArray→Option R129) (c130:(List Int)→(List Int)→Option R130) (c131:(List Int)→Option R131)
noncomputable def B85l0 (x5:(List Int)) (x6:(List Int)):Option R85:=if(x6.length:Int)>0 then((c130 x5 x6).bind fun r1=>(gl0 x6 r1.2))else((c131 x5).bind fun r2=>(some r2))
theorem e85l0 (s0:SbT ask85.bl) (s:k85l0.T):evPos E0 (orcOf (fes85 c129 c130 c131)) 26 an85 (loOf (les85 gl0)) (rk85 s0) (p85.getD 0 ⟨0,[], .skip⟩) (k85l0.mk' s)=B85l0 gl0 c130 c131 s.1.1 s.1.2.1:=by kernel_rfl
noncomputable def B85 (x0:ByteArray) (x1:ByteArray):Option R85:=(c129 x0).bind fun r1=>((c129 x1).bind fun r2=>(gl0 r1 r2))
theorem e85 (s:ask85.T):evFn E0 (orcOf (fes85 c129 c130 c131)) an85 (loOf (les85 gl0)) 26 cd85 Tryz.f85.results.toList rm85 (ask85.mk' s) (decW rsk85 dec85)=B85 gl0 c129 s.1.1 s.1.2.1:=by kernel_rfl
end
noncomputable def an34:Ann:=⟨[],[],[]⟩
noncomputable def cd34:Code:=(Tryz.f34.body).getD .skip
noncomputable def rm34:List RM:=[.d (.it .i64)]
noncomputable def les34:List (LoE R34):=[]
noncomputable def fes34 (c83:TI→Option R83) (c84:ByteArray→Option R84) (c85:ByteArray→ByteArray→Option R85):List FE:=[(fe83 c83),(fe84 c84),(fe85 c85)]
section
variable (c83:TI→Option R83) (c84:ByteArray→Option R84) (c85:ByteArray→ByteArray→Option R85)
noncomputable def B34 (x0:TQ):Option R34:=(c83 x0.1).bind fun r1=>((c84 x0.2).bind fun r2=>(if r1=1 then(some 1)else(if r2=1 then(some 1)else(cnd ((x0.2.toList==(⟨#[]⟩:ByteArray).toList)) (some 1) (if r1≠0 then(some r1)else(if r2≠0 then(some r2)else(cnd ((!(x0.2.toList==(⟨#[1]⟩:ByteArray).toList))) ((c85 x0.1.2 x0.2).bind fun r3=>(cnd ((!(r3.toList==(⟨#[1]⟩:ByteArray).toList))) (some 1) (some 0))) (some 0))))))))
theorem e34 (s:ask34.T):evFn E0 (orcOf (fes34 c83 c84 c85)) an34 (loOf (les34)) 44 cd34 Tryz.f34.results.toList rm34 (ask34.mk' s) (decW rsk34 dec34)=B34 c83 c84 c85 s.1.1:=by kernel_rfl
end
noncomputable def an50:Ann:=⟨[],[],[]⟩
noncomputable def cd50:Code:=(Tryz.f50.body).getD .skip
noncomputable def rm50:List RM:=[.d (.ag (.pr .bo .st)), .d (.it .i64)]
noncomputable def les50:List (LoE R50):=[]
noncomputable def fes50:List FE:=[]
noncomputable def B50 (x0:TI):Option R50:=if(x0.2.size:Int)>1024 then(some (false,(⟨#[]⟩:ByteArray),4))else(some (x0.1,x0.2,0))
theorem e50 (s:ask50.T):evFn E0 (orcOf (fes50)) an50 (loOf (les50)) 10 cd50 Tryz.f50.results.toList rm50 (ask50.mk' s) (decW rsk50 dec50)=B50 s.1.1:=by kernel_rfl
noncomputable def an108:Ann:=⟨[],[],[]⟩
noncomputable def cd108:Code:=(Tryz.f108.body).getD .skip
noncomputable def rm108:List RM:=[.d (.ag (.pr .bo .st))]
noncomputable def les108:List (LoE R108):=[]
noncomputable def fes108:List FE:=[]
noncomputable def B108 (x0:Bool) (x1:ByteArray):Option R108:=cnd (x0) (some ((!(x1.toList==(⟨#[]⟩:ByteArray).toList)),x1)) (some (false,x1))
theorem e108 (s:ask108.T):evFn E0 (orcOf (fes108)) an108 (loOf (les108)) 12 cd108 Tryz.f108.results.toList rm108 (ask108.mk' s) (decW rsk108 dec108)=B108 s.1.1 s.1.2.1:=by kernel_rfl
noncomputable def an134:Ann:=⟨[],[],[]⟩
noncomputable def cd134:Code:=(Tryz.f134.body).getD .skip
noncomputable def rm134:List RM:=[.d .st, .d .st]
noncomputable def les134:List (LoE R134):=[]
noncomputable def fes134 (c129:ByteArray→Option R129) (c130:(List Int)→(List Int)→Option R130) (c131:(List Int)→Option R131):List FE:=[(fe129 c129),(fe130 c130),(fe131 c131)]
section
variable (c129:ByteArray→Option R129) (c130:(List Int)→(List Int)→Option R130) (c131:(List Int)→Option R131)
noncomputable def B134 (x0:ByteArray) (x1:ByteArray):Option R134:=(c129 x0).bind fun r1=>((c129 x1).bind fun r2=>((c130 r1 r2).bind fun r3=>((c131 r3.1).bind fun r4=>((c131 r3.2).bind fun r5=>(some (r4,r5))))))
theorem e134 (s:ask134.T):evFn E0 (orcOf (fes134 c129 c130 c131)) an134 (loOf (les134)) 20 cd134 Tryz.f134.results.toList rm134 (ask134.mk' s) (decW rsk134 dec134)=B134 c129 c130 c131 s.1.1 s.1.2.1:=by kernel_rfl
end
noncomputable def an138:Ann:=⟨[(7,[(5, .any),(6, .any),(7, .any),(8, .any),(27, .any),(28, .any)])],[],[]⟩
noncomputable def cd138:Code:=(Tryz.f138.body).getD .skip
noncomputable def p138:List Pos:=posns an138 [] cd138
noncomputable def rm138:List RM:=[.d .st]
noncomputable def rk138 (s0:SbT ask138.bl):KX R138:=retK E0 Tryz.f138.results.toList rm138 (mkB ask138.bl s0) (decW rsk138 dec138)
noncomputable def k138l0:Sk:=⟨[(5, .f (.a (.ref 5))),(6, .f (.a (.ref 6))),(7, .f (.a (.ref 7))),(8, .d (.it .u64)),(27, .d (.it .i64)),(28, .d (.it .i64))],[(5, .own (.it .u64) true),(6, .own (.it .u64) true),(7, .own (.it .u64) true)]⟩
noncomputable def les138 (gl0:Int→Int→Int→(List Int)→(List Int)→(List Int)→Option R138):List (LoE R138):=[⟨7,k138l0,fun s=>gl0 s.1.1 s.1.2.1 s.1.2.2.1 s.2.1 s.2.2.1 s.2.2.2.1⟩]
noncomputable def fes138 (c129:ByteArray→Option R129) (c131:(List Int)→Option R131) (c159:Int→Int→Int→Option R159):List FE:=[(fe129 c129),(fe131 c131),(fe159 c159)]
section
variable (gl0:Int→Int→Int→(List Int)→(List Int)→(List Int)→Option R138) (c129:ByteArray→Option R129) (c131:(List Int)→Option R131) (c159:Int→Int→Int→Option R159)
noncomputable def B138l0 (x8:Int) (x27:Int) (x28:Int) (x5:(List Int)) (x6:(List Int)) (x7:(List Int)):Option R138:=if x28<x27 then(if x28<(x6.length:Int)then(if 0≤x28 then(if x28<(x6.length:Int)then(if 0≤x28 then(if x28<(x5.length:Int)then((c159 (rd x5 x28) (rd x6 x28) x8).bind fun r1=>(if 0≤x28 then(if x28<(x7.length:Int)then(gl0 r1.2 x27 (wrap64 (x28+1)) x5 x6 (x7.set (x28:Int).toNat r1.1))else(none))else(none)))else(none))else(none))else(none))else(none))else(if 0≤x28 then(if x28<(x5.length:Int)then((c159 (rd x5 x28) 0 x8).bind fun r2=>(if 0≤x28 then(if x28<(x7.length:Int)then(gl0 r2.2 x27 (wrap64 (x28+1)) x5 x6 (x7.set (x28:Int).toNat r2.1))else(none))else(none)))else(none))else(none)))else(if 0≤(x5.length:Int)then(if(x5.length:Int)<(x7.length:Int)then((c131 (x7.set ((x5.length:Int):Int).toNat x8)).bind fun r3=>(some r3))else(none))else(none))
theorem e138l0 (s0:SbT ask138.bl) (s:k138l0.T):evPos E0 (orcOf (fes138 c129 c131 c159)) 60 an138 (loOf (les138 gl0)) (rk138 s0) (p138.getD 0 ⟨0,[], .skip⟩) (k138l0.mk' s)=B138l0 gl0 c131 c159 s.1.1 s.1.2.1 s.1.2.2.1 s.2.1 s.2.2.1 s.2.2.2.1:=by kernel_rfl
noncomputable def B138 (x0:ByteArray) (x1:ByteArray):Option R138:=(c129 x0).bind fun r1=>((c129 x1).bind fun r2=>(if(r1.length:Int)<(r2.length:Int)then(if 0≤wrap64 ((r2.length:Int)+1)then(if wrap64 ((r2.length:Int)+1)≤wrap64 ((r2.length:Int)+1)then(if(wrap64 ((r2.length:Int)+1):Int).toNat≤35184372088832 then(gl0 0 (r2.length:Int) 0 r2 r1 (List.replicate (wrap64 ((r2.length:Int)+1):Int).toNat (0:Int)))else(none))else(none))else(none))else(if 0≤wrap64 ((r1.length:Int)+1)then(if wrap64 ((r1.length:Int)+1)≤wrap64 ((r1.length:Int)+1)then(if(wrap64 ((r1.length:Int)+1):Int).toNat≤35184372088832 then(gl0 0 (r1.length:Int) 0 r1 r2 (List.replicate (wrap64 ((r1.length:Int)+1):Int).toNat (0:Int)))else(none))else(none))else(none))))
theorem e138 (s:ask138.T):evFn E0 (orcOf (fes138 c129 c131 c159)) an138 (loOf (les138 gl0)) 60 cd138 Tryz.f138.results.toList rm138 (ask138.mk' s) (decW rsk138 dec138)=B138 gl0 c129 s.1.1 s.1.2.1:=by kernel_rfl
end
noncomputable def an143:Ann:=⟨[],[],[]⟩
noncomputable def cd143:Code:=(Tryz.f143.body).getD .skip
noncomputable def rm143:List RM:=[.d .st]
noncomputable def les143:List (LoE R143):=[]
noncomputable def fes143 (c131:(List Int)→Option R131):List FE:=[(fe131 c131)]
section
variable (c131:(List Int)→Option R131)
noncomputable def B143 (x0:Int):Option R143:=(c131 ([x0]:List Int)).bind fun r1=>(some r1)
theorem e143 (s:ask143.T):evFn E0 (orcOf (fes143 c131)) an143 (loOf (les143)) 6 cd143 Tryz.f143.results.toList rm143 (ask143.mk' s) (decW rsk143 dec143)=B143 c131 s.1.1:=by kernel_rfl
end
noncomputable def an144:Ann:=⟨[(4,[(5, .any),(6, .any),(7, .any),(15, .any),(16, .any)])],[],[]⟩
noncomputable def cd144:Code:=(Tryz.f144.body).getD .skip
noncomputable def p144:List Pos:=posns an144 [] cd144
noncomputable def rm144:List RM:=[.d .st]
noncomputable def rk144 (s0:SbT ask144.bl):KX R144:=retK E0 Tryz.f144.results.toList rm144 (mkB ask144.bl s0) (decW rsk144 dec144)
noncomputable def k144l0:Sk:=⟨[(5, .f (.a (.ref 5))),(6, .f (.a (.ref 6))),(7, .d (.it .u64)),(15, .d (.it .i64)),(16, .d (.it .i64))],[(5, .own (.it .u64) true),(6, .own (.it .u64) true)]⟩
noncomputable def les144 (gl0:Int→Int→Int→(List Int)→(List Int)→Option R144):List (LoE R144):=[⟨4,k144l0,fun s=>gl0 s.1.1 s.1.2.1 s.1.2.2.1 s.2.1 s.2.2.1⟩]
noncomputable def fes144 (c129:ByteArray→Option R129) (c131:(List Int)→Option R131) (c160:Int→Int→Int→Option R160):List FE:=[(fe129 c129),(fe131 c131),(fe160 c160)]
section
variable (gl0:Int→Int→Int→(List Int)→(List Int)→Option R144) (c129:ByteArray→Option R129) (c131:(List Int)→Option R131) (c160:Int→Int→Int→Option R160)
noncomputable def B144l0 (x7:Int) (x15:Int) (x16:Int) (x5:(List Int)) (x6:(List Int)):Option R144:=if x16<x15 then(if x16<(x6.length:Int)then(if 0≤x16 then(if x16<(x6.length:Int)then(if 0≤x16 then(if x16<(x5.length:Int)then((c160 (rd x5 x16) (rd x6 x16) x7).bind fun r1=>(if 0≤x16 then(if x16<(x5.length:Int)then(gl0 r1.2 x15 (wrap64 (x16+1)) (x5.set (x16:Int).toNat r1.1) x6)else(none))else(none)))else(none))else(none))else(none))else(none))else(if 0≤x16 then(if x16<(x5.length:Int)then((c160 (rd x5 x16) 0 x7).bind fun r2=>(if 0≤x16 then(if x16<(x5.length:Int)then(gl0 r2.2 x15 (wrap64 (x16+1)) (x5.set (x16:Int).toNat r2.1) x6)else(none))else(none)))else(none))else(none)))else((c131 x5).bind fun r3=>(some r3))
theorem e144l0 (s0:SbT ask144.bl) (s:k144l0.T):evPos E0 (orcOf (fes144 c129 c131 c160)) 43 an144 (loOf (les144 gl0)) (rk144 s0) (p144.getD 0 ⟨0,[], .skip⟩) (k144l0.mk' s)=B144l0 gl0 c131 c160 s.1.1 s.1.2.1 s.1.2.2.1 s.2.1 s.2.2.1:=by kernel_rfl
noncomputable def B144 (x0:ByteArray) (x1:ByteArray):Option R144:=(c129 x0).bind fun r1=>((c129 x1).bind fun r2=>(gl0 0 (r1.length:Int) 0 r1 r2))
theorem e144 (s:ask144.T):evFn E0 (orcOf (fes144 c129 c131 c160)) an144 (loOf (les144 gl0)) 43 cd144 Tryz.f144.results.toList rm144 (ask144.mk' s) (decW rsk144 dec144)=B144 gl0 c129 s.1.1 s.1.2.1:=by kernel_rfl
end
noncomputable def an105:Ann:=⟨[],[],[]⟩
noncomputable def cd105:Code:=(Tryz.f105.body).getD .skip
noncomputable def rm105:List RM:=[.d (.ag (.pr .bo .st)), .d (.ag (.pr .bo .st))]
noncomputable def les105:List (LoE R105):=[]
noncomputable def fes105 (c108:Bool→ByteArray→Option R108) (c134:ByteArray→ByteArray→Option R134) (c138:ByteArray→ByteArray→Option R138) (c143:Int→Option R143) (c144:ByteArray→ByteArray→Option R144):List FE:=[(fe108 c108),(fe134 c134),(fe138 c138),(fe143 c143),(fe144 c144)]
section
variable (c108:Bool→ByteArray→Option R108) (c134:ByteArray→ByteArray→Option R134) (c138:ByteArray→ByteArray→Option R138) (c143:Int→Option R143) (c144:ByteArray→ByteArray→Option R144)
noncomputable def B105 (x0:TI) (x1:TI):Option R105:=(c134 x0.2 x1.2).bind fun r1=>(cnd (x0.1) (cnd ((!(r1.2.toList==(⟨#[]⟩:ByteArray).toList))) ((c143 1).bind fun r2=>((c138 r1.1 r2).bind fun r3=>((c144 x1.2 r1.2).bind fun r4=>((c108 (!(x0.1==x1.1)) r3).bind fun r5=>(some (r5.1,r5.2,false,r4)))))) ((c108 (!(x0.1==x1.1)) r1.1).bind fun r6=>(some (r6.1,r6.2,false,r1.2)))) ((c108 (!(x0.1==x1.1)) r1.1).bind fun r7=>(some (r7.1,r7.2,false,r1.2))))
theorem e105 (s:ask105.T):evFn E0 (orcOf (fes105 c108 c134 c138 c143 c144)) an105 (loOf (les105)) 38 cd105 Tryz.f105.results.toList rm105 (ask105.mk' s) (decW rsk105 dec105)=B105 c108 c134 c138 c143 c144 s.1.1 s.1.2.1:=by kernel_rfl
end
noncomputable def an51:Ann:=⟨[],[],[]⟩
noncomputable def cd51:Code:=(Tryz.f51.body).getD .skip
noncomputable def rm51:List RM:=[.d (.ag (.pr .bo .st))]
noncomputable def les51:List (LoE R51):=[]
noncomputable def fes51 (c105:TI→TI→Option R105):List FE:=[(fe105 c105)]
section
variable (c105:TI→TI→Option R105)
noncomputable def B51 (x0:TQ):Option R51:=(c105 x0.1 (false,x0.2)).bind fun r1=>(some (r1.1,r1.2.1))
theorem e51 (s:ask51.T):evFn E0 (orcOf (fes51 c105)) an51 (loOf (les51)) 15 cd51 Tryz.f51.results.toList rm51 (ask51.mk' s) (decW rsk51 dec51)=B51 c105 s.1.1:=by kernel_rfl
end
noncomputable def an12:Ann:=⟨[],[],[]⟩
noncomputable def cd12:Code:=(Tryz.f12.body).getD .skip
noncomputable def rm12:List RM:=[.d (.ag (.pr .bo .st)), .d (.it .i64)]
noncomputable def les12:List (LoE R12):=[]
noncomputable def fes12 (c34:TQ→Option R34) (c50:TI→Option R50) (c51:TQ→Option R51):List FE:=[(fe34 c34),(fe50 c50),(fe51 c51)]
section
variable (c34:TQ→Option R34) (c50:TI→Option R50) (c51:TQ→Option R51)
noncomputable def B12 (x0:TQ):Option R12:=(c34 x0).bind fun r1=>(if r1≠0 then(some (false,(⟨#[]⟩:ByteArray),r1))else((c51 x0).bind fun r2=>((c50 (r2.1,r2.2)).bind fun r3=>(some (r3.1,r3.2.1,r3.2.2)))))
theorem e12 (s:ask12.T):evFn E0 (orcOf (fes12 c34 c50 c51)) an12 (loOf (les12)) 16 cd12 Tryz.f12.results.toList rm12 (ask12.mk' s) (decW rsk12 dec12)=B12 c34 c50 c51 s.1.1:=by kernel_rfl
end
noncomputable def an93:Ann:=⟨[],[],[]⟩
noncomputable def cd93:Code:=(Tryz.f93.body).getD .skip
noncomputable def rm93:List RM:=[.d (.ag (.pr (.ag (.pr .bo .st)) .st))]
noncomputable def les93:List (LoE R93):=[]
noncomputable def fes93:List FE:=[]
noncomputable def B93 (x0:TI):Option R93:=some (x0,(⟨#[1]⟩:ByteArray))
theorem e93 (s:ask93.T):evFn E0 (orcOf (fes93)) an93 (loOf (les93)) 5 cd93 Tryz.f93.results.toList rm93 (ask93.mk' s) (decW rsk93 dec93)=B93 s.1.1:=by kernel_rfl
noncomputable def an145:Ann:=⟨[],[],[]⟩
noncomputable def cd145:Code:=(Tryz.f145.body).getD .skip
noncomputable def rm145:List RM:=[.d (.it .i64)]
noncomputable def les145:List (LoE R145):=[]
noncomputable def fes145:List FE:=[]
noncomputable def B145 (x0:ByteArray) (x1:ByteArray):Option R145:=if(x0.size:Int)<(x1.size:Int)then(some (-1))else(if(x0.size:Int)=(x1.size:Int)then(cnd ((Op.bytesLess x0.toList x1.toList)) (some (-1)) (cnd ((x0.toList==x1.toList)) (some 0) (some 1)))else(cnd ((x0.toList==x1.toList)) (some 0) (some 1)))
theorem e145 (s:ask145.T):evFn E0 (orcOf (fes145)) an145 (loOf (les145)) 27 cd145 Tryz.f145.results.toList rm145 (ask145.mk' s) (decW rsk145 dec145)=B145 s.1.1 s.1.2.1:=by kernel_rfl
noncomputable def an106:Ann:=⟨[],[],[]⟩
noncomputable def cd106:Code:=(Tryz.f106.body).getD .skip
noncomputable def rm106:List RM:=[.d (.ag (.pr .bo .st))]
noncomputable def les106:List (LoE R106):=[]
noncomputable def fes106 (c108:Bool→ByteArray→Option R108) (c138:ByteArray→ByteArray→Option R138) (c144:ByteArray→ByteArray→Option R144) (c145:ByteArray→ByteArray→Option R145):List FE:=[(fe108 c108),(fe138 c138),(fe144 c144),(fe145 c145)]
section
variable (c108:Bool→ByteArray→Option R108) (c138:ByteArray→ByteArray→Option R138) (c144:ByteArray→ByteArray→Option R144) (c145:ByteArray→ByteArray→Option R145)
noncomputable def B106 (x0:TI) (x1:TI):Option R106:=cnd ((x0.1==x1.1)) ((c138 x0.2 x1.2).bind fun r1=>((c108 x0.1 r1).bind fun r2=>(some (r2.1,r2.2)))) ((c145 x0.2 x1.2).bind fun r3=>(if r3<0 then((c144 x1.2 x0.2).bind fun r4=>((c108 x1.1 r4).bind fun r5=>(some (r5.1,r5.2))))else((c144 x0.2 x1.2).bind fun r6=>((c108 x0.1 r6).bind fun r7=>(some (r7.1,r7.2))))))
theorem e106 (s:ask106.T):evFn E0 (orcOf (fes106 c108 c138 c144 c145)) an106 (loOf (les106)) 42 cd106 Tryz.f106.results.toList rm106 (ask106.mk' s) (decW rsk106 dec106)=B106 c108 c138 c144 c145 s.1.1 s.1.2.1:=by kernel_rfl
end
noncomputable def an107:Ann:=⟨[],[],[]⟩
noncomputable def cd107:Code:=(Tryz.f107.body).getD .skip
noncomputable def rm107:List RM:=[.d (.ag (.pr (.ag (.pr .bo .st)) .st))]
noncomputable def les107:List (LoE R107):=[]
noncomputable def fes107 (c85:ByteArray→ByteArray→Option R85) (c108:Bool→ByteArray→Option R108) (c134:ByteArray→ByteArray→Option R134):List FE:=[(fe85 c85),(fe108 c108),(fe134 c134)]
section
variable (c85:ByteArray→ByteArray→Option R85) (c108:Bool→ByteArray→Option R108) (c134:ByteArray→ByteArray→Option R134)
noncomputable def B107 (x0:TI) (x1:TI):Option R107:=(c85 x0.2 x1.2).bind fun r1=>(cnd ((!(r1.toList==(⟨#[1]⟩:ByteArray).toList))) ((c134 x0.2 r1).bind fun r2=>((c134 x1.2 r1).bind fun r3=>((c108 (!(x0.1==x1.1)) r2.1).bind fun r4=>(some ((r4.1,r4.2),r3.1))))) ((c108 (!(x0.1==x1.1)) x0.2).bind fun r5=>(some ((r5.1,r5.2),x1.2))))
theorem e107 (s:ask107.T):evFn E0 (orcOf (fes107 c85 c108 c134)) an107 (loOf (les107)) 40 cd107 Tryz.f107.results.toList rm107 (ask107.mk' s) (decW rsk107 dec107)=B107 c85 c108 c134 s.1.1 s.1.2.1:=by kernel_rfl
end
noncomputable def an146:Ann:=⟨[(3,[(1, .any),(5, .any),(20, .any),(21, .any),(22, .any)]),(7,[(1, .any),(5, .any),(6, .any),(7, .any),(8, .any),(20, .any),(21, .any),(22, .any),(27, .any),(28, .any),(29, .any)])],[],[]⟩
noncomputable def cd146:Code:=(Tryz.f146.body).getD .skip
noncomputable def p146:List Pos:=posns an146 [] cd146
noncomputable def rm146:List RM:=[.d (.li (.it .u64))]
noncomputable def rk146 (s0:SbT ask146.bl):KX R146:=retK E0 Tryz.f146.results.toList rm146 (mkB ask146.bl s0) (decW rsk146 dec146)
noncomputable def k146l0:Sk:=⟨[(1, .d (.li (.it .u64))),(5, .f (.a (.ref 5))),(20, .d (.li (.it .u64))),(21, .d (.it .i64)),(22, .d (.it .i64))],[(5, .own (.it .u64) true)]⟩
noncomputable def k146l1:Sk:=⟨[(1, .d (.li (.it .u64))),(5, .f (.a (.ref 5))),(6, .d (.it .i64)),(7, .d (.it .u64)),(8, .d (.it .u64)),(20, .d (.li (.it .u64))),(21, .d (.it .i64)),(22, .d (.it .i64)),(27, .d (.li (.it .u64))),(28, .d (.it .i64)),(29, .d (.it .i64))],[(5, .own (.it .u64) true)]⟩
noncomputable def les146 (gl0:(List Int)→(List Int)→Int→Int→(List Int)→Option R146) (gl1:(List Int)→Int→Int→Int→(List Int)→Int→Int→(List Int)→Int→Int→(List Int)→Option R146):List (LoE R146):=[⟨3,k146l0,fun s=>gl0 s.1.1 s.1.2.1 s.1.2.2.1 s.1.2.2.2.1 s.2.1⟩,⟨7,k146l1,fun s=>gl1 s.1.1 s.1.2.1 s.1.2.2.1 s.1.2.2.2.1 s.1.2.2.2.2.1 s.1.2.2.2.2.2.1 s.1.2.2.2.2.2.2.1 s.1.2.2.2.2.2.2.2.1 s.1.2.2.2.2.2.2.2.2.1 s.1.2.2.2.2.2.2.2.2.2.1 s.2.1⟩]
noncomputable def fes146 (c152:(List Int)→Option R152) (c159:Int→Int→Int→Option R159) (c161:Int→Int→Option R161):List FE:=[(fe152 c152),(fe159 c159),(fe161 c161)]
section
variable (gl0:(List Int)→(List Int)→Int→Int→(List Int)→Option R146) (gl1:(List Int)→Int→Int→Int→(List Int)→Int→Int→(List Int)→Int→Int→(List Int)→Option R146) (c152:(List Int)→Option R152) (c159:Int→Int→Int→Option R159) (c161:Int→Int→Option R161)
noncomputable def B146l0 (x1:(List Int)) (x20:(List Int)) (x21:Int) (x22:Int) (x5:(List Int)):Option R146:=if x22<x21 then(if 0≤x22 then(if x22<(x20.length:Int)then(gl1 x1 x22 (rd x20 x22) 0 x20 x21 x22 x1 (x1.length:Int) 0 x5)else(none))else(none))else((c152 x5).bind fun r1=>(some (r1.2.take (r1.1:Int).toNat)))
theorem e146l0 (s0:SbT ask146.bl) (s:k146l0.T):evPos E0 (orcOf (fes146 c152 c159 c161)) 80 an146 (loOf (les146 gl0 gl1)) (rk146 s0) (p146.getD 0 ⟨0,[], .skip⟩) (k146l0.mk' s)=B146l0 gl1 c152 s.1.1 s.1.2.1 s.1.2.2.1 s.1.2.2.2.1 s.2.1:=by kernel_rfl
noncomputable def B146l1 (x1:(List Int)) (x6:Int) (x7:Int) (x8:Int) (x20:(List Int)) (x21:Int) (x22:Int) (x27:(List Int)) (x28:Int) (x29:Int) (x5:(List Int)):Option R146:=if x29<x28 then(if 0≤x29 then(if x29<(x27.length:Int)then((c161 x7 (rd x27 x29)).bind fun r1=>(if 0≤wrap64 (x6+x29)then(if wrap64 (x6+x29)<(x5.length:Int)then((c159 r1.2 (rd x5 (wrap64 (x6+x29))) 0).bind fun r2=>((c159 r2.1 x8 0).bind fun r3=>(if 0≤wrap64 (x6+x29)then(if wrap64 (x6+x29)<(x5.length:Int)then(gl1 x1 x6 x7 (IntKind.u64.wrap ((IntKind.u64.wrap (r1.1+r2.2))+r3.2)) x20 x21 x22 x27 x28 (wrap64 (x29+1)) (x5.set (wrap64 (x6+x29):Int).toNat r3.1))else(none))else(none))))else(none))else(none)))else(none))else(none))else(if 0≤wrap64 (x6+(x1.length:Int))then(if wrap64 (x6+(x1.length:Int))<(x5.length:Int)then(gl0 x1 x20 x21 (wrap64 (x22+1)) (x5.set (wrap64 (x6+(x1.length:Int)):Int).toNat x8))else(none))else(none))
theorem e146l1 (s0:SbT ask146.bl) (s:k146l1.T):evPos E0 (orcOf (fes146 c152 c159 c161)) 80 an146 (loOf (les146 gl0 gl1)) (rk146 s0) (p146.getD 1 ⟨0,[], .skip⟩) (k146l1.mk' s)=B146l1 gl0 gl1 c159 c161 s.1.1 s.1.2.1 s.1.2.2.1 s.1.2.2.2.1 s.1.2.2.2.2.1 s.1.2.2.2.2.2.1 s.1.2.2.2.2.2.2.1 s.1.2.2.2.2.2.2.2.1 s.1.2.2.2.2.2.2.2.2.1 s.1.2.2.2.2.2.2.2.2.2.1 s.2.1:=by kernel_rfl
noncomputable def B146 (x0:(List Int)) (x1:(List Int)):Option R146:=if 0≤wrap64 ((x0.length:Int)+(x1.length:Int))then(if wrap64 ((x0.length:Int)+(x1.length:Int))≤wrap64 ((x0.length:Int)+(x1.length:Int))then(if(wrap64 ((x0.length:Int)+(x1.length:Int)):Int).toNat≤35184372088832 then(gl0 x1 x0 (x0.length:Int) 0 (List.replicate (wrap64 ((x0.length:Int)+(x1.length:Int)):Int).toNat (0:Int)))else(none))else(none))else(none)
theorem e146 (s:ask146.T):evFn E0 (orcOf (fes146 c152 c159 c161)) an146 (loOf (les146 gl0 gl1)) 80 cd146 Tryz.f146.results.toList rm146 (ask146.mk' s) (decW rsk146 dec146)=B146 gl0 s.1.1 s.1.2.1:=by kernel_rfl
end
noncomputable def an109:Ann:=⟨[],[],[]⟩
noncomputable def cd109:Code:=(Tryz.f109.body).getD .skip
noncomputable def rm109:List RM:=[.d .st]
noncomputable def les109:List (LoE R109):=[]
noncomputable def fes109 (c129:ByteArray→Option R129) (c131:(List Int)→Option R131) (c146:(List Int)→(List Int)→Option R146):List FE:=[(fe129 c129),(fe131 c131),(fe146 c146)]
section
variable (c129:ByteArray→Option R129) (c131:(List Int)→Option R131) (c146:(List Int)→(List Int)→Option R146)
noncomputable def B109 (x0:ByteArray) (x1:ByteArray):Option R109:=(c129 x0).bind fun r1=>((c129 x1).bind fun r2=>((c146 r1 r2).bind fun r3=>((c131 r3).bind fun r4=>(some r4))))
theorem e109 (s:ask109.T):evFn E0 (orcOf (fes109 c129 c131 c146)) an109 (loOf (les109)) 11 cd109 Tryz.f109.results.toList rm109 (ask109.mk' s) (decW rsk109 dec109)=B109 c129 c131 c146 s.1.1 s.1.2.1:=by kernel_rfl
end
noncomputable def an52:Ann:=⟨[],[],[]⟩
noncomputable def cd52:Code:=(Tryz.f52.body).getD .skip
noncomputable def rm52:List RM:=[.d (.ag (.pr (.ag (.pr .bo .st)) .st))]
noncomputable def les52:List (LoE R52):=[]
noncomputable def fes52 (c93:TI→Option R93) (c106:TI→TI→Option R106) (c107:TI→TI→Option R107) (c108:Bool→ByteArray→Option R108) (c109:ByteArray→ByteArray→Option R109):List FE:=[(fe93 c93),(fe106 c106),(fe107 c107),(fe108 c108),(fe109 c109)]
section
variable (c93:TI→Option R93) (c106:TI→TI→Option R106) (c107:TI→TI→Option R107) (c108:Bool→ByteArray→Option R108) (c109:ByteArray→ByteArray→Option R109)
noncomputable def B52 (x0:TQ) (x1:TQ):Option R52:=cnd ((x0.2.toList==x1.2.toList)) (cnd ((x0.2.toList==(⟨#[1]⟩:ByteArray).toList)) ((c106 x0.1 x1.1).bind fun r1=>((c93 (r1.1,r1.2)).bind fun r2=>(some (r2.1,r2.2)))) ((c106 x0.1 x1.1).bind fun r3=>((c107 (r3.1,r3.2) (false,x0.2)).bind fun r4=>(some (r4.1,r4.2))))) ((c109 x0.1.2 x1.2).bind fun r5=>((c108 x0.1.1 r5).bind fun r6=>((c109 x1.1.2 x0.2).bind fun r7=>((c108 x1.1.1 r7).bind fun r8=>((c106 (r6.1,r6.2) (r8.1,r8.2)).bind fun r9=>((c109 x0.2 x1.2).bind fun r10=>((c107 (r9.1,r9.2) (false,r10)).bind fun r11=>(some (r11.1,r11.2)))))))))
theorem e52 (s:ask52.T):evFn E0 (orcOf (fes52 c93 c106 c107 c108 c109)) an52 (loOf (les52)) 58 cd52 Tryz.f52.results.toList rm52 (ask52.mk' s) (decW rsk52 dec52)=B52 c93 c106 c107 c108 c109 s.1.1 s.1.2.1:=by kernel_rfl
end
noncomputable def an110:Ann:=⟨[],[],[]⟩
noncomputable def cd110:Code:=(Tryz.f110.body).getD .skip
noncomputable def rm110:List RM:=[.d (.ag (.pr .bo .st))]
noncomputable def les110:List (LoE R110):=[]
noncomputable def fes110 (c143:Int→Option R143):List FE:=[(fe143 c143)]
section
variable (c143:Int→Option R143)
noncomputable def B110 (x0:Int):Option R110:=if x0<0 then((c143 (IntKind.u64.wrap (0-(IntKind.u64.wrap (x0))))).bind fun r1=>(some (true,r1)))else((c143 (IntKind.u64.wrap (x0))).bind fun r2=>(some (false,r2)))
theorem e110 (s:ask110.T):evFn E0 (orcOf (fes110 c143)) an110 (loOf (les110)) 14 cd110 Tryz.f110.results.toList rm110 (ask110.mk' s) (decW rsk110 dec110)=B110 c143 s.1.1:=by kernel_rfl
end
noncomputable def an53:Ann:=⟨[],[],[]⟩
noncomputable def cd53:Code:=(Tryz.f53.body).getD .skip
noncomputable def rm53:List RM:=[.d (.ag (.pr (.ag (.pr .bo .st)) .st))]
noncomputable def les53:List (LoE R53):=[]
noncomputable def fes53 (c107:TI→TI→Option R107) (c110:Int→Option R110):List FE:=[(fe107 c107),(fe110 c110)]
section
variable (c107:TI→TI→Option R107) (c110:Int→Option R110)
noncomputable def B53 (x0:Int) (x1:Int):Option R53:=(c110 x0).bind fun r1=>((c110 x1).bind fun r2=>((c107 (r1.1,r1.2) (r2.1,r2.2)).bind fun r3=>(some (r3.1,r3.2))))
theorem e53 (s:ask53.T):evFn E0 (orcOf (fes53 c107 c110)) an53 (loOf (les53)) 10 cd53 Tryz.f53.results.toList rm53 (ask53.mk' s) (decW rsk53 dec53)=B53 c107 c110 s.1.1 s.1.2.1:=by kernel_rfl
end
noncomputable def an13:Ann:=⟨[],[],[]⟩
noncomputable def cd13:Code:=(Tryz.f13.body).getD .skip
noncomputable def rm13:List RM:=[.d (.ag (.pr .bo .st)), .d (.it .i64)]
noncomputable def les13:List (LoE R13):=[]
noncomputable def fes13 (c34:TQ→Option R34) (c50:TI→Option R50) (c51:TQ→Option R51) (c52:TQ→TQ→Option R52) (c53:Int→Int→Option R53):List FE:=[(fe34 c34),(fe50 c50),(fe51 c51),(fe52 c52),(fe53 c53)]
section
variable (c34:TQ→Option R34) (c50:TI→Option R50) (c51:TQ→Option R51) (c52:TQ→TQ→Option R52) (c53:Int→Int→Option R53)
noncomputable def B13 (x0:TQ):Option R13:=(c34 x0).bind fun r1=>(if r1≠0 then(some (false,(⟨#[]⟩:ByteArray),r1))else((c53 1 2).bind fun r2=>((c52 x0 (r2.1,r2.2)).bind fun r3=>((c51 (r3.1,r3.2)).bind fun r4=>((c50 (r4.1,r4.2)).bind fun r5=>(some (r5.1,r5.2.1,r5.2.2)))))))
theorem e13 (s:ask13.T):evFn E0 (orcOf (fes13 c34 c50 c51 c52 c53)) an13 (loOf (les13)) 18 cd13 Tryz.f13.results.toList rm13 (ask13.mk' s) (decW rsk13 dec13)=B13 c34 c50 c51 c52 c53 s.1.1:=by kernel_rfl
end
noncomputable def cd149:Code:=(Tryz.f149.body).getD .skip
noncomputable def an114:Ann:=⟨[],[],[]⟩
noncomputable def cd114:Code:=(Tryz.f114.body).getD .skip
noncomputable def rm114:List RM:=[.d (.it .i64)]
noncomputable def les114:List (LoE R114):=[]
noncomputable def fes114 (c149:Int→Option R149):List FE:=[(fe149 c149)]
section
variable (c149:Int→Option R149)
noncomputable def B114 (x0:ByteArray):Option R114:=cnd ((x0.toList==(⟨#[]⟩:ByteArray).toList)) (some 0) (if(0:Int)≤0 then(if 0<(x0.size:Int)then((c149 (bt x0 0)).bind fun r1=>(some (wrap64 ((wrap64 (8*(wrap64 ((x0.size:Int)-1))))+r1))))else(none))else(none))
theorem e114 (s:ask114.T):evFn E0 (orcOf (fes114 c149)) an114 (loOf (les114)) 13 cd114 Tryz.f114.results.toList rm114 (ask114.mk' s) (decW rsk114 dec114)=B114 c149 s.1.1:=by kernel_rfl
end
noncomputable def an116:Ann:=⟨[(2,[(1, .any),(5, .val (.li (.it .u64))),(6, .val (.li (.it .u64)))])],[],[]⟩
noncomputable def cd116:Code:=(Tryz.f116.body).getD .skip
noncomputable def p116:List Pos:=posns an116 [] cd116
noncomputable def rm116:List RM:=[.d .st]
noncomputable def rk116 (s0:SbT ask116.bl):KX R116:=retK E0 Tryz.f116.results.toList rm116 (mkB ask116.bl s0) (decW rsk116 dec116)
noncomputable def k116l0:Sk:=⟨[(1, .d (.it .i64)),(5, .d (.li (.it .u64))),(6, .d (.li (.it .u64)))],[]⟩
noncomputable def les116 (gl0:Int→(List Int)→(List Int)→Option R116):List (LoE R116):=[⟨2,k116l0,fun s=>gl0 s.1.1 s.1.2.1 s.1.2.2.1⟩]
noncomputable def fes116 (c129:ByteArray→Option R129) (c131:(List Int)→Option R131) (c146:(List Int)→(List Int)→Option R146):List FE:=[(fe129 c129),(fe131 c131),(fe146 c146)]
section
variable (gl0:Int→(List Int)→(List Int)→Option R116) (c129:ByteArray→Option R129) (c131:(List Int)→Option R131) (c146:(List Int)→(List Int)→Option R146)
noncomputable def B116l0 (x1:Int) (x5:(List Int)) (x6:(List Int)):Option R116:=if x1>0 then(if Go.bits .and .i64 x1 1=1 then((c146 x5 x6).bind fun r1=>((c146 x6 x6).bind fun r2=>(if(0:Int)≤1 then(gl0 (x1/2) r1 r2)else(none))))else((c146 x6 x6).bind fun r3=>(if(0:Int)≤1 then(gl0 (x1/2) x5 r3)else(none))))else((c131 x5).bind fun r4=>(some r4))
theorem e116l0 (s0:SbT ask116.bl) (s:k116l0.T):evPos E0 (orcOf (fes116 c129 c131 c146)) 25 an116 (loOf (les116 gl0)) (rk116 s0) (p116.getD 0 ⟨0,[], .skip⟩) (k116l0.mk' s)=B116l0 gl0 c131 c146 s.1.1 s.1.2.1 s.1.2.2.1:=by kernel_rfl
noncomputable def B116 (x0:ByteArray) (x1:Int):Option R116:=(c129 x0).bind fun r1=>(gl0 x1 ([1]:List Int) r1)
theorem e116 (s:ask116.T):evFn E0 (orcOf (fes116 c129 c131 c146)) an116 (loOf (les116 gl0)) 25 cd116 Tryz.f116.results.toList rm116 (ask116.mk' s) (decW rsk116 dec116)=B116 gl0 c129 s.1.1 s.1.2.1:=by kernel_rfl
end
noncomputable def an162:Ann:=⟨[],[],[]⟩
noncomputable def cd162:Code:=(Tryz.f162.body).getD .skip
noncomputable def rm162:List RM:=[.d .st]
noncomputable def les162:List (LoE R162):=[]
noncomputable def fes162:List FE:=[]
noncomputable def B162 (x0:Int):Option R162:=if(8:Int)=0 then(none)else(if 0≤wrap64 ((wrap64 (Int.tdiv x0 8))+1)then(if wrap64 ((wrap64 (Int.tdiv x0 8))+1)≤wrap64 ((wrap64 (Int.tdiv x0 8))+1)then(if(wrap64 ((wrap64 (Int.tdiv x0 8))+1):Int).toNat≤281474976710656 then(if(8:Int)=0 then(none)else(if 0≤Int.tmod x0 8 then(if(0:Int)≤0 then(if 0<((List.replicate (wrap64 ((wrap64 (Int.tdiv x0 8))+1):Int).toNat (0:Int)).length:Int)then(some (strOfNums ((List.replicate (wrap64 ((wrap64 (Int.tdiv x0 8))+1):Int).toNat (0:Int)).set (0:Int).toNat (shl .u8 1 (Int.tmod x0 8)))))else(none))else(none))else(none)))else(none))else(none))else(none))
theorem e162 (s:ask162.T):evFn E0 (orcOf (fes162)) an162 (loOf (les162)) 15 cd162 Tryz.f162.results.toList rm162 (ask162.mk' s) (decW rsk162 dec162)=B162 s.1.1:=by kernel_rfl
noncomputable def an147:Ann:=⟨[(3,[(0, .any),(1, .any),(5, .any),(6, .any)])],[],[]⟩
noncomputable def cd147:Code:=(Tryz.f147.body).getD .skip
noncomputable def p147:List Pos:=posns an147 [] cd147
noncomputable def rm147:List RM:=[.d .st]
noncomputable def rk147 (s0:SbT ask147.bl):KX R147:=retK E0 Tryz.f147.results.toList rm147 (mkB ask147.bl s0) (decW rsk147 dec147)
noncomputable def k147l0:Sk:=⟨[(0, .d .st),(1, .d (.it .i64)),(5, .d .st),(6, .d (.it .i64))],[]⟩
noncomputable def les147 (gl0:ByteArray→Int→ByteArray→Int→Option R147):List (LoE R147):=[⟨3,k147l0,fun s=>gl0 s.1.1 s.1.2.1 s.1.2.2.1 s.1.2.2.2.1⟩]
noncomputable def fes147 (c114:ByteArray→Option R114) (c116:ByteArray→Int→Option R116) (c138:ByteArray→ByteArray→Option R138) (c145:ByteArray→ByteArray→Option R145) (c162:Int→Option R162):List FE:=[(fe114 c114),(fe116 c116),(fe138 c138),(fe145 c145),(fe162 c162)]
section
variable (gl0:ByteArray→Int→ByteArray→Int→Option R147) (c114:ByteArray→Option R114) (c116:ByteArray→Int→Option R116) (c138:ByteArray→ByteArray→Option R138) (c145:ByteArray→ByteArray→Option R145) (c162:Int→Option R162)
noncomputable def B147l0 (x0:ByteArray) (x1:Int) (x5:ByteArray) (x6:Int):Option R147:=if x6≥0 then((c162 x6).bind fun r1=>((c138 x5 r1).bind fun r2=>((c116 r2 x1).bind fun r3=>((c145 r3 x0).bind fun r4=>(if r4≤0 then(gl0 x0 x1 r2 (wrap64 (x6-1)))else(gl0 x0 x1 x5 (wrap64 (x6-1))))))))else(some x5)
theorem e147l0 (s0:SbT ask147.bl) (s:k147l0.T):evPos E0 (orcOf (fes147 c114 c116 c138 c145 c162)) 31 an147 (loOf (les147 gl0)) (rk147 s0) (p147.getD 0 ⟨0,[], .skip⟩) (k147l0.mk' s)=B147l0 gl0 c116 c138 c145 c162 s.1.1 s.1.2.1 s.1.2.2.1 s.1.2.2.2.1:=by kernel_rfl
noncomputable def B147 (x0:ByteArray) (x1:Int):Option R147:=(c114 x0).bind fun r1=>(if x1=0 then(none)else(gl0 x0 x1 (⟨#[]⟩:ByteArray) (wrap64 (Int.tdiv (wrap64 ((wrap64 (r1+x1))-1)) x1))))
theorem e147 (s:ask147.T):evFn E0 (orcOf (fes147 c114 c116 c138 c145 c162)) an147 (loOf (les147 gl0)) 31 cd147 Tryz.f147.results.toList rm147 (ask147.mk' s) (decW rsk147 dec147)=B147 gl0 c114 s.1.1 s.1.2.1:=by kernel_rfl
end
noncomputable def an111:Ann:=⟨[],[],[]⟩
noncomputable def cd111:Code:=(Tryz.f111.body).getD .skip
noncomputable def rm111:List RM:=[.d (.ag (.pr .bo .st)), .d .bo]
noncomputable def les111:List (LoE R111):=[]
noncomputable def fes111 (c109:ByteArray→ByteArray→Option R109) (c147:ByteArray→Int→Option R147):List FE:=[(fe109 c109),(fe147 c147)]
section
variable (c109:ByteArray→ByteArray→Option R109) (c147:ByteArray→Int→Option R147)
noncomputable def B111 (x0:TI):Option R111:=cnd (x0.1) (some (false,(⟨#[]⟩:ByteArray),false)) ((c147 x0.2 2).bind fun r1=>((c109 r1 r1).bind fun r2=>(cnd ((!(r2.toList==x0.2.toList))) (some (false,(⟨#[]⟩:ByteArray),false)) (some (false,r1,true)))))
theorem e111 (s:ask111.T):evFn E0 (orcOf (fes111 c109 c147)) an111 (loOf (les111)) 20 cd111 Tryz.f111.results.toList rm111 (ask111.mk' s) (decW rsk111 dec111)=B111 c109 c147 s.1.1:=by kernel_rfl
end
noncomputable def an112:Ann:=⟨[],[],[]⟩
noncomputable def cd112:Code:=(Tryz.f112.body).getD .skip
noncomputable def rm112:List RM:=[.d (.ag (.pr (.ag (.pr .bo .st)) .st))]
noncomputable def les112:List (LoE R112):=[]
noncomputable def fes112 (c93:TI→Option R93) (c110:Int→Option R110):List FE:=[(fe93 c93),(fe110 c110)]
section
variable (c93:TI→Option R93) (c110:Int→Option R110)
noncomputable def B112 (x0:Int):Option R112:=(c110 x0).bind fun r1=>((c93 (r1.1,r1.2)).bind fun r2=>(some (r2.1,r2.2)))
theorem e112 (s:ask112.T):evFn E0 (orcOf (fes112 c93 c110)) an112 (loOf (les112)) 6 cd112 Tryz.f112.results.toList rm112 (ask112.mk' s) (decW rsk112 dec112)=B112 c93 c110 s.1.1:=by kernel_rfl
end
noncomputable def an54:Ann:=⟨[],[],[]⟩
noncomputable def cd54:Code:=(Tryz.f54.body).getD .skip
noncomputable def rm54:List RM:=[.d (.ag (.pr (.ag (.pr .bo .st)) .st)), .d .bo]
noncomputable def les54:List (LoE R54):=[]
noncomputable def fes54 (c111:TI→Option R111) (c112:Int→Option R112):List FE:=[(fe111 c111),(fe112 c112)]
section
variable (c111:TI→Option R111) (c112:Int→Option R112)
noncomputable def B54 (x0:TQ):Option R54:=(c111 x0.1).bind fun r1=>((c111 (false,x0.2)).bind fun r2=>(cnd ((!r1.2.2)) ((c112 0).bind fun r3=>(some (r3.1,r3.2,false))) (cnd ((!r2.2.2)) ((c112 0).bind fun r4=>(some (r4.1,r4.2,false))) (some ((r1.1,r1.2.1),r2.2.1,true)))))
theorem e54 (s:ask54.T):evFn E0 (orcOf (fes54 c111 c112)) an54 (loOf (les54)) 32 cd54 Tryz.f54.results.toList rm54 (ask54.mk' s) (decW rsk54 dec54)=B54 c111 c112 s.1.1:=by kernel_rfl
end
noncomputable def an14:Ann:=⟨[],[],[]⟩
noncomputable def cd14:Code:=(Tryz.f14.body).getD .skip
noncomputable def rm14:List RM:=[.d (.ag (.pr (.ag (.pr .bo .st)) .st)), .d .bo, .d (.it .i64)]
noncomputable def les14:List (LoE R14):=[]
noncomputable def fes14 (c34:TQ→Option R34) (c54:TQ→Option R54):List FE:=[(fe34 c34),(fe54 c54)]
section
variable (c34:TQ→Option R34) (c54:TQ→Option R54)
noncomputable def B14 (x0:TQ):Option R14:=(c34 x0).bind fun r1=>(if r1≠0 then(some ((false,(⟨#[]⟩:ByteArray)),(⟨#[]⟩:ByteArray),false,r1))else((c54 x0).bind fun r2=>(cnd ((!r2.2.2)) (some ((false,(⟨#[]⟩:ByteArray)),(⟨#[]⟩:ByteArray),false,0)) (some (r2.1,r2.2.1,true,0)))))
theorem e14 (s:ask14.T):evFn E0 (orcOf (fes14 c34 c54)) an14 (loOf (les14)) 23 cd14 Tryz.f14.results.toList rm14 (ask14.mk' s) (decW rsk14 dec14)=B14 c34 c54 s.1.1:=by kernel_rfl
end
noncomputable def an57:Ann:=⟨[],[],[]⟩
noncomputable def cd57:Code:=(Tryz.f57.body).getD .skip
noncomputable def rm57:List RM:=[.d .bo]
noncomputable def les57:List (LoE R57):=[]
noncomputable def fes57:List FE:=[]
noncomputable def B57 (x0:TQ):Option R57:=some (x0.1.2.toList==(⟨#[]⟩:ByteArray).toList)
theorem e57 (s:ask57.T):evFn E0 (orcOf (fes57)) an57 (loOf (les57)) 7 cd57 Tryz.f57.results.toList rm57 (ask57.mk' s) (decW rsk57 dec57)=B57 s.1.1:=by kernel_rfl
noncomputable def an58:Ann:=⟨[],[],[]⟩
noncomputable def cd58:Code:=(Tryz.f58.body).getD .skip
noncomputable def rm58:List RM:=[.d (.ag (.pr (.ag (.pr .bo .st)) .st))]
noncomputable def les58:List (LoE R58):=[]
noncomputable def fes58:List FE:=[]
noncomputable def B58 (x0:TQ):Option R58:=some ((x0.1.1,x0.2),x0.1.2)
theorem e58 (s:ask58.T):evFn E0 (orcOf (fes58)) an58 (loOf (les58)) 13 cd58 Tryz.f58.results.toList rm58 (ask58.mk' s) (decW rsk58 dec58)=B58 s.1.1:=by kernel_rfl
noncomputable def an59:Ann:=⟨[],[],[]⟩
noncomputable def cd59:Code:=(Tryz.f59.body).getD .skip
noncomputable def rm59:List RM:=[.d .bo]
noncomputable def les59:List (LoE R59):=[]
noncomputable def fes59 (c114:ByteArray→Option R114):List FE:=[(fe114 c114)]
section
variable (c114:ByteArray→Option R114)
noncomputable def B59 (x0:ByteArray) (x1:Int):Option R59:=cnd ((!(x0.toList==(⟨#[]⟩:ByteArray).toList))) ((c114 x0).bind fun r1=>(some (decide (wrap64 ((wrap64 (r1-1))*x1)≥8192)))) (some false)
theorem e59 (s:ask59.T):evFn E0 (orcOf (fes59 c114)) an59 (loOf (les59)) 15 cd59 Tryz.f59.results.toList rm59 (ask59.mk' s) (decW rsk59 dec59)=B59 c114 s.1.1 s.1.2.1:=by kernel_rfl
end
noncomputable def an115:Ann:=⟨[],[],[]⟩
noncomputable def cd115:Code:=(Tryz.f115.body).getD .skip
noncomputable def rm115:List RM:=[.d (.ag (.pr .bo .st))]
noncomputable def les115:List (LoE R115):=[]
noncomputable def fes115 (c108:Bool→ByteArray→Option R108) (c116:ByteArray→Int→Option R116):List FE:=[(fe108 c108),(fe116 c116)]
section
variable (c108:Bool→ByteArray→Option R108) (c116:ByteArray→Int→Option R116)
noncomputable def B115 (x0:TI) (x1:Int):Option R115:=cnd (x0.1) (if(2:Int)=0 then(none)else((c116 x0.2 x1).bind fun r1=>((c108 (decide (Int.tmod x1 2=1)) r1).bind fun r2=>(some (r2.1,r2.2))))) ((c116 x0.2 x1).bind fun r3=>((c108 false r3).bind fun r4=>(some (r4.1,r4.2))))
theorem e115 (s:ask115.T):evFn E0 (orcOf (fes115 c108 c116)) an115 (loOf (les115)) 17 cd115 Tryz.f115.results.toList rm115 (ask115.mk' s) (decW rsk115 dec115)=B115 c108 c116 s.1.1 s.1.2.1:=by kernel_rfl
end
noncomputable def an60:Ann:=⟨[],[],[]⟩
noncomputable def cd60:Code:=(Tryz.f60.body).getD .skip
noncomputable def rm60:List RM:=[.d (.ag (.pr (.ag (.pr .bo .st)) .st))]
noncomputable def les60:List (LoE R60):=[]
noncomputable def fes60 (c115:TI→Int→Option R115) (c116:ByteArray→Int→Option R116):List FE:=[(fe115 c115),(fe116 c116)]
section
variable (c115:TI→Int→Option R115) (c116:ByteArray→Int→Option R116)
noncomputable def B60 (x0:TQ) (x1:Int):Option R60:=(c115 x0.1 x1).bind fun r1=>((c116 x0.2 x1).bind fun r2=>(some ((r1.1,r1.2),r2)))
theorem e60 (s:ask60.T):evFn E0 (orcOf (fes60 c115 c116)) an60 (loOf (les60)) 14 cd60 Tryz.f60.results.toList rm60 (ask60.mk' s) (decW rsk60 dec60)=B60 c115 c116 s.1.1 s.1.2.1:=by kernel_rfl
end
noncomputable def an56:Ann:=⟨[],[],[]⟩
noncomputable def cd56:Code:=(Tryz.f56.body).getD .skip
noncomputable def rm56:List RM:=[.d (.ag (.pr (.ag (.pr .bo .st)) .st)), .d (.it .i64)]
noncomputable def les56:List (LoE R56):=[]
noncomputable def fes56 (c57:TQ→Option R57) (c58:TQ→Option R58) (c59:ByteArray→Int→Option R59) (c60:TQ→Int→Option R60):List FE:=[(fe57 c57),(fe58 c58),(fe59 c59),(fe60 c60)]
section
variable (c57:TQ→Option R57) (c58:TQ→Option R58) (c59:ByteArray→Int→Option R59) (c60:TQ→Int→Option R60)
noncomputable def B56 (x0:(List TQ)) (y500:Int):Option R56:=if(0:Int)≤0 then(if 0<(x0.length:Int)then(if y500<(-4096)then(some ((rdOf ((false,(⟨#[]⟩:ByteArray)),(⟨#[]⟩:ByteArray)) x0 0).1,(rdOf ((false,(⟨#[]⟩:ByteArray)),(⟨#[]⟩:ByteArray)) x0 0).2,3,y500))else(if y500>4096 then(some ((rdOf ((false,(⟨#[]⟩:ByteArray)),(⟨#[]⟩:ByteArray)) x0 0).1,(rdOf ((false,(⟨#[]⟩:ByteArray)),(⟨#[]⟩:ByteArray)) x0 0).2,3,y500))else(if y500<0 then((c57 (rdOf ((false,(⟨#[]⟩:ByteArray)),(⟨#[]⟩:ByteArray)) x0 0)).bind fun r1=>(cnd (r1) (some ((rdOf ((false,(⟨#[]⟩:ByteArray)),(⟨#[]⟩:ByteArray)) x0 0).1,(rdOf ((false,(⟨#[]⟩:ByteArray)),(⟨#[]⟩:ByteArray)) x0 0).2,6,y500)) ((c58 (rdOf ((false,(⟨#[]⟩:ByteArray)),(⟨#[]⟩:ByteArray)) x0 0)).bind fun r2=>((c59 r2.1.2 (wrap64 (0-y500))).bind fun r3=>(cnd (r3) (some (r2.1,r2.2,4,wrap64 (0-y500))) ((c59 r2.2 (wrap64 (0-y500))).bind fun r4=>(cnd (r4) (some (r2.1,r2.2,4,wrap64 (0-y500))) ((c60 (r2.1,r2.2) (wrap64 (0-y500))).bind fun r5=>(some (r5.1,r5.2,0,wrap64 (0-y500)))))))))))else((c59 (((rdOf ((false,(⟨#[]⟩:ByteArray)),(⟨#[]⟩:ByteArray)) x0 0).1).2) y500).bind fun r6=>(cnd (r6) (some ((rdOf ((false,(⟨#[]⟩:ByteArray)),(⟨#[]⟩:ByteArray)) x0 0).1,(rdOf ((false,(⟨#[]⟩:ByteArray)),(⟨#[]⟩:ByteArray)) x0 0).2,4,y500)) ((c59 ((rdOf ((false,(⟨#[]⟩:ByteArray)),(⟨#[]⟩:ByteArray)) x0 0).2) y500).bind fun r7=>(cnd (r7) (some ((rdOf ((false,(⟨#[]⟩:ByteArray)),(⟨#[]⟩:ByteArray)) x0 0).1,(rdOf ((false,(⟨#[]⟩:ByteArray)),(⟨#[]⟩:ByteArray)) x0 0).2,4,y500)) ((c60 (rdOf ((false,(⟨#[]⟩:ByteArray)),(⟨#[]⟩:ByteArray)) x0 0) y500).bind fun r8=>(some (r8.1,r8.2,0,y500))))))))))else(none))else(none)
theorem e56 (s:ask56.T):evFn E0 (orcOf (fes56 c57 c58 c59 c60)) an56 (loOf (les56)) 40 cd56 Tryz.f56.results.toList rm56 (ask56.mk' s) (decW rsk56 dec56)=B56 c57 c58 c59 c60 s.1.1 s.2.1:=by kernel_rfl
end
noncomputable def an148:Ann:=⟨[],[],[]⟩
noncomputable def cd148:Code:=(Tryz.f148.body).getD .skip
noncomputable def rm148:List RM:=[.d .bo]
noncomputable def les148:List (LoE R148):=[]
noncomputable def fes148:List FE:=[]
noncomputable def B148 (x0:TQ):Option R148:=if(x0.1.2.size:Int)>1024 then(some true)else(some (decide ((x0.2.size:Int)>1024)))
theorem e148 (s:ask148.T):evFn E0 (orcOf (fes148)) an148 (loOf (les148)) 14 cd148 Tryz.f148.results.toList rm148 (ask148.mk' s) (decW rsk148 dec148)=B148 s.1.1:=by kernel_rfl
noncomputable def an113:Ann:=⟨[],[],[]⟩
noncomputable def cd113:Code:=(Tryz.f113.body).getD .skip
noncomputable def rm113:List RM:=[.d (.ag (.pr (.ag (.pr .bo .st)) .st)), .d (.it .i64)]
noncomputable def les113:List (LoE R113):=[]
noncomputable def fes113 (c148:TQ→Option R148):List FE:=[(fe148 c148)]
section
variable (c148:TQ→Option R148)
noncomputable def B113 (x0:TQ):Option R113:=(c148 x0).bind fun r1=>(cnd (r1) (some ((false,(⟨#[]⟩:ByteArray)),(⟨#[]⟩:ByteArray),4)) (some (x0.1,x0.2,0)))
theorem e113 (s:ask113.T):evFn E0 (orcOf (fes113 c148)) an113 (loOf (les113)) 8 cd113 Tryz.f113.results.toList rm113 (ask113.mk' s) (decW rsk113 dec113)=B113 c148 s.1.1:=by kernel_rfl
end
noncomputable def an55Pow:Ann:=⟨[(2,[(0, .any),(1, .any),(4, .any),(11, .any),(12, .any),(13, .any)])],[],[]⟩
noncomputable def cd55Pow:Code:=(Tryz.f55.body).getD .skip
noncomputable def p55Pow:List Pos:=posns an55Pow [] cd55Pow
noncomputable def rm55Pow:List RM:=[.d (.ag (.pr (.ag (.pr .bo .st)) .st)), .d (.it .i64)]
noncomputable def rk55Pow (s0:SbT ask55Pow.bl):KX R55Pow:=retK E0 Tryz.f55.results.toList rm55Pow (mkB ask55Pow.bl s0) (decW rsk55Pow dec55Pow)
noncomputable def k55Powl0:Sk:=⟨[(0, .f (.cl 56 [(.ptr 2100 0 [])])),(1, .d (.li (.ag (.pr (.ag (.pr .bo .st)) .st)))),(4, .f (.a (.ptr 4 0 []))),(11, .d (.li (.ag (.pr (.ag (.pr .bo .st)) .st)))),(12, .d (.it .i64)),(13, .d (.it .i64))],[(2100, .cell (.it .i64) false),(4, .cell (.ag (.pr (.ag (.pr .bo .st)) .st)) true)]⟩
noncomputable def les55Pow (gl0:(List TQ)→(List TQ)→Int→Int→Int→TQ→Option R55Pow):List (LoE R55Pow):=[⟨2,k55Powl0,fun s=>gl0 s.1.1 s.1.2.1 s.1.2.2.1 s.1.2.2.2.1 s.2.1 s.2.2.1⟩]
noncomputable def fes55Pow (c34:TQ→Option R34) (c56:(List TQ)→Int→Option R56) (c113:TQ→Option R113):List FE:=[(fe34 c34),(fe56 c56),(fe113 c113)]
section
variable (gl0:(List TQ)→(List TQ)→Int→Int→Int→TQ→Option R55Pow) (c34:TQ→Option R34) (c56:(List TQ)→Int→Option R56) (c113:TQ→Option R113)
noncomputable def B55Powl0 (x1:(List TQ)) (x11:(List TQ)) (x12:Int) (x13:Int) (y100:Int) (x4:TQ):Option R55Pow:=if x13<x12 then(if 0≤x13 then(if x13<(x11.length:Int)then((c34 (rdOf ((false,(⟨#[]⟩:ByteArray)),(⟨#[]⟩:ByteArray)) x11 x13)).bind fun r1=>(if r1≠0 then(some ((false,(⟨#[]⟩:ByteArray)),(⟨#[]⟩:ByteArray),r1,y100))else(gl0 x1 x11 x12 (wrap64 (x13+1)) y100 x4)))else(none))else(none))else((c56 x1 y100).bind fun r2=>(if r2.2.2.1≠0 then(some ((false,(⟨#[]⟩:ByteArray)),(⟨#[]⟩:ByteArray),r2.2.2.1,r2.2.2.2))else((c113 (r2.1,r2.2.1)).bind fun r3=>(some (r3.1,r3.2.1,r3.2.2,r2.2.2.2)))))
theorem e55Powl0 (s0:SbT ask55Pow.bl) (s:k55Powl0.T):evPos E0 (orcOf (fes55Pow c34 c56 c113)) 38 an55Pow (loOf (les55Pow gl0)) (rk55Pow s0) (p55Pow.getD 0 ⟨0,[], .skip⟩) (k55Powl0.mk' s)=B55Powl0 gl0 c34 c56 c113 s.1.1 s.1.2.1 s.1.2.2.1 s.1.2.2.2.1 s.2.1 s.2.2.1:=by kernel_rfl
noncomputable def B55Pow (x1:(List TQ)) (y100:Int):Option R55Pow:=gl0 x1 x1 (x1.length:Int) 0 y100 ((false,(⟨#[]⟩:ByteArray)),(⟨#[]⟩:ByteArray))
theorem e55Pow (s:ask55Pow.T):evFn E0 (orcOf (fes55Pow c34 c56 c113)) an55Pow (loOf (les55Pow gl0)) 38 cd55Pow Tryz.f55.results.toList rm55Pow (ask55Pow.mk' s) (decW rsk55Pow dec55Pow)=B55Pow gl0 s.1.1 s.2.1:=by kernel_rfl
end
noncomputable def an15:Ann:=⟨[],[],[]⟩
noncomputable def cd15:Code:=(Tryz.f15.body).getD .skip
noncomputable def rm15:List RM:=[.d (.ag (.pr (.ag (.pr .bo .st)) .st)), .d (.it .i64)]
noncomputable def les15:List (LoE R15):=[]
noncomputable def fes15 (c55Pow:(List TQ)→Int→Option R55Pow):List FE:=[(fe55Pow c55Pow)]
section
variable (c55Pow:(List TQ)→Int→Option R55Pow)
noncomputable def B15 (x0:TQ) (x1:Int):Option R15:=(c55Pow ([x0]:List TQ) x1).bind fun r1=>(some (r1.1,r1.2.1,r1.2.2.1))
theorem e15 (s:ask15.T):evFn E0 (orcOf (fes15 c55Pow)) an15 (loOf (les15)) 12 cd15 Tryz.f15.results.toList rm15 (ask15.mk' s) (decW rsk15 dec15)=B15 c55Pow s.1.1 s.1.2.1:=by kernel_rfl
end
noncomputable def an72:Ann:=⟨[],[],[]⟩
noncomputable def cd72:Code:=(Tryz.f72.body).getD .skip
noncomputable def rm72:List RM:=[.d (.ag (.pr (.ag (.pr .bo .st)) .st)), .d (.it .i64)]
noncomputable def les72:List (LoE R72):=[]
noncomputable def fes72 (c52:TQ→TQ→Option R52):List FE:=[(fe52 c52)]
section
variable (c52:TQ→TQ→Option R52)
noncomputable def B72 (x0:(List TQ)):Option R72:=if(0:Int)≤0 then(if 0<(x0.length:Int)then(if(0:Int)≤1 then(if 1<(x0.length:Int)then((c52 (rdOf ((false,(⟨#[]⟩:ByteArray)),(⟨#[]⟩:ByteArray)) x0 0) (rdOf ((false,(⟨#[]⟩:ByteArray)),(⟨#[]⟩:ByteArray)) x0 1)).bind fun r1=>(some (r1.1,r1.2,0)))else(none))else(none))else(none))else(none)
theorem e72 (s:ask72.T):evFn E0 (orcOf (fes72 c52)) an72 (loOf (les72)) 11 cd72 Tryz.f72.results.toList rm72 (ask72.mk' s) (decW rsk72 dec72)=B72 c52 s.1.1:=by kernel_rfl
end
noncomputable def an55Add:Ann:=⟨[(2,[(0, .any),(1, .any),(4, .any),(11, .any),(12, .any),(13, .any)])],[],[]⟩
noncomputable def cd55Add:Code:=(Tryz.f55.body).getD .skip
noncomputable def p55Add:List Pos:=posns an55Add [] cd55Add
noncomputable def rm55Add:List RM:=[.d (.ag (.pr (.ag (.pr .bo .st)) .st)), .d (.it .i64)]
noncomputable def rk55Add (s0:SbT ask55Add.bl):KX R55Add:=retK E0 Tryz.f55.results.toList rm55Add (mkB ask55Add.bl s0) (decW rsk55Add dec55Add)
noncomputable def k55Addl0:Sk:=⟨[(0, .f (.cl 72 [])),(1, .d (.li (.ag (.pr (.ag (.pr .bo .st)) .st)))),(4, .f (.a (.ptr 4 0 []))),(11, .d (.li (.ag (.pr (.ag (.pr .bo .st)) .st)))),(12, .d (.it .i64)),(13, .d (.it .i64))],[(4, .cell (.ag (.pr (.ag (.pr .bo .st)) .st)) true)]⟩
noncomputable def les55Add (gl0:(List TQ)→(List TQ)→Int→Int→TQ→Option R55Add):List (LoE R55Add):=[⟨2,k55Addl0,fun s=>gl0 s.1.1 s.1.2.1 s.1.2.2.1 s.1.2.2.2.1 s.2.1⟩]
noncomputable def fes55Add (c34:TQ→Option R34) (c72:(List TQ)→Option R72) (c113:TQ→Option R113):List FE:=[(fe34 c34),(fe72 c72),(fe113 c113)]
section
variable (gl0:(List TQ)→(List TQ)→Int→Int→TQ→Option R55Add) (c34:TQ→Option R34) (c72:(List TQ)→Option R72) (c113:TQ→Option R113)
noncomputable def B55Addl0 (x1:(List TQ)) (x11:(List TQ)) (x12:Int) (x13:Int) (x4:TQ):Option R55Add:=if x13<x12 then(if 0≤x13 then(if x13<(x11.length:Int)then((c34 (rdOf ((false,(⟨#[]⟩:ByteArray)),(⟨#[]⟩:ByteArray)) x11 x13)).bind fun r1=>(if r1≠0 then(some ((false,(⟨#[]⟩:ByteArray)),(⟨#[]⟩:ByteArray),r1))else(gl0 x1 x11 x12 (wrap64 (x13+1)) x4)))else(none))else(none))else((c72 x1).bind fun r2=>(if r2.2.2≠0 then(some ((false,(⟨#[]⟩:ByteArray)),(⟨#[]⟩:ByteArray),r2.2.2))else((c113 (r2.1,r2.2.1)).bind fun r3=>(some (r3.1,r3.2.1,r3.2.2)))))
theorem e55Addl0 (s0:SbT ask55Add.bl) (s:k55Addl0.T):evPos E0 (orcOf (fes55Add c34 c72 c113)) 38 an55Add (loOf (les55Add gl0)) (rk55Add s0) (p55Add.getD 0 ⟨0,[], .skip⟩) (k55Addl0.mk' s)=B55Addl0 gl0 c34 c72 c113 s.1.1 s.1.2.1 s.1.2.2.1 s.1.2.2.2.1 s.2.1:=by kernel_rfl
noncomputable def B55Add (x1:(List TQ)):Option R55Add:=gl0 x1 x1 (x1.length:Int) 0 ((false,(⟨#[]⟩:ByteArray)),(⟨#[]⟩:ByteArray))
theorem e55Add (s:ask55Add.T):evFn E0 (orcOf (fes55Add c34 c72 c113)) an55Add (loOf (les55Add gl0)) 38 cd55Add Tryz.f55.results.toList rm55Add (ask55Add.mk' s) (decW rsk55Add dec55Add)=B55Add gl0 s.1.1:=by kernel_rfl
end
noncomputable def an25:Ann:=⟨[],[],[]⟩
noncomputable def cd25:Code:=(Tryz.f25.body).getD .skip
noncomputable def rm25:List RM:=[.d (.ag (.pr (.ag (.pr .bo .st)) .st)), .d (.it .i64)]
noncomputable def les25:List (LoE R25):=[]
noncomputable def fes25 (c55Add:(List TQ)→Option R55Add):List FE:=[(fe55Add c55Add)]
section
variable (c55Add:(List TQ)→Option R55Add)
noncomputable def B25 (x0:TQ) (x1:TQ):Option R25:=(c55Add ([x0,x1]:List TQ)).bind fun r1=>(some (r1.1,r1.2.1,r1.2.2))
theorem e25 (s:ask25.T):evFn E0 (orcOf (fes25 c55Add)) an25 (loOf (les25)) 12 cd25 Tryz.f25.results.toList rm25 (ask25.mk' s) (decW rsk25 dec25)=B25 c55Add s.1.1 s.1.2.1:=by kernel_rfl
end
noncomputable def an140:Ann:=⟨[(3,[(0, .any),(3, .own (.it .u8)),(4, .any)]),(6,[(0, .any),(3, .own (.it .u8)),(4, .any),(5, .any)])],[],[]⟩
noncomputable def cd140:Code:=(Tryz.f140.body).getD .skip
noncomputable def p140:List Pos:=posns an140 [] cd140
noncomputable def rm140:List RM:=[.d .st]
noncomputable def rk140 (s0:SbT ask140.bl):KX R140:=retK E0 Tryz.f140.results.toList rm140 (mkB ask140.bl s0) (decW rsk140 dec140)
noncomputable def k140l0:Sk:=⟨[(0, .d (.li (.it .u64))),(3, .f (.a (.ref 3))),(4, .d (.it .i64))],[(3, .own (.it .u8) true)]⟩
noncomputable def k140l1:Sk:=⟨[(0, .d (.li (.it .u64))),(3, .f (.a (.ref 3))),(4, .d (.it .i64)),(5, .d (.it .i64))],[(3, .own (.it .u8) true)]⟩
noncomputable def les140 (gl0:(List Int)→Int→(List Int)→Option R140) (gl1:(List Int)→Int→Int→(List Int)→Option R140):List (LoE R140):=[⟨3,k140l0,fun s=>gl0 s.1.1 s.1.2.1 s.2.1⟩,⟨6,k140l1,fun s=>gl1 s.1.1 s.1.2.1 s.1.2.2.1 s.2.1⟩]
noncomputable def fes140:List FE:=[]
section
variable (gl0:(List Int)→Int→(List Int)→Option R140) (gl1:(List Int)→Int→Int→(List Int)→Option R140)
noncomputable def B140l0 (x0:(List Int)) (x4:Int) (x3:(List Int)):Option R140:=if x4≥0 then(gl1 x0 x4 24 x3)else(some (strOfNums x3))
theorem e140l0 (s0:SbT ask140.bl) (s:k140l0.T):evPos E0 (orcOf (fes140)) 38 an140 (loOf (les140 gl0 gl1)) (rk140 s0) (p140.getD 0 ⟨0,[], .skip⟩) (k140l0.mk' s)=B140l0 gl1 s.1.1 s.1.2.1 s.2.1:=by kernel_rfl
noncomputable def B140l1 (x0:(List Int)) (x4:Int) (x5:Int) (x3:(List Int)):Option R140:=if x5≥0 then(if 0≤x4 then(if x4<(x0.length:Int)then(if 0≤x5 then(if(x3.length:Int)>0 then(if(x3.length+1)*1≤140737488355328 then(gl1 x0 x4 (wrap64 (x5-8)) (x3++([IntKind.u8.wrap (shr .u64 (rd x0 x4) x5)]:List Int)))else(none))else(if IntKind.u8.wrap (shr .u64 (rd x0 x4) x5)>0 then(if(x3.length+1)*1≤140737488355328 then(gl1 x0 x4 (wrap64 (x5-8)) (x3++([IntKind.u8.wrap (shr .u64 (rd x0 x4) x5)]:List Int)))else(none))else(gl1 x0 x4 (wrap64 (x5-8)) x3)))else(none))else(none))else(none))else(gl0 x0 (wrap64 (x4-1)) x3)
theorem e140l1 (s0:SbT ask140.bl) (s:k140l1.T):evPos E0 (orcOf (fes140)) 38 an140 (loOf (les140 gl0 gl1)) (rk140 s0) (p140.getD 1 ⟨0,[], .skip⟩) (k140l1.mk' s)=B140l1 gl0 gl1 s.1.1 s.1.2.1 s.1.2.2.1 s.2.1:=by kernel_rfl
noncomputable def B140 (x0:(List Int)):Option R140:=gl0 x0 (wrap64 ((x0.length:Int)-1)) ([]:List Int)
theorem e140 (s:ask140.T):evFn E0 (orcOf (fes140)) an140 (loOf (les140 gl0 gl1)) 38 cd140 Tryz.f140.results.toList rm140 (ask140.mk' s) (decW rsk140 dec140)=B140 gl0 s.1.1:=by kernel_rfl
end
noncomputable def an104:Ann:=⟨[],[],[]⟩
noncomputable def cd104:Code:=(Tryz.f104.body).getD .skip
noncomputable def rm104:List RM:=[.d .st]
noncomputable def les104:List (LoE R104):=[]
noncomputable def fes104 (c140:(List Int)→Option R140):List FE:=[(fe140 c140)]
section
variable (c140:(List Int)→Option R140)
noncomputable def B104 (x0:Int):Option R104:=if(0:Int)≤32 then((c140 ([Go.bits .and .u64 x0 4294967295,x0/4294967296]:List Int)).bind fun r1=>(some r1))else(none)
theorem e104 (s:ask104.T):evFn E0 (orcOf (fes104 c140)) an104 (loOf (les104)) 9 cd104 Tryz.f104.results.toList rm104 (ask104.mk' s) (decW rsk104 dec104)=B104 c140 s.1.1:=by kernel_rfl
end
noncomputable def an49:Ann:=⟨[],[],[]⟩
noncomputable def cd49:Code:=(Tryz.f49.body).getD .skip
noncomputable def rm49:List RM:=[.d (.ag (.pr .bo .st))]
noncomputable def les49:List (LoE R49):=[]
noncomputable def fes49 (c104:Int→Option R104):List FE:=[(fe104 c104)]
section
variable (c104:Int→Option R104)
noncomputable def B49 (x0:Int):Option R49:=if x0<0 then((c104 (IntKind.u64.wrap ((IntKind.u64.wrap (wrap64 (0-(wrap64 (x0+1)))))+1))).bind fun r1=>(some (true,r1)))else((c104 (IntKind.u64.wrap (x0))).bind fun r2=>(some (false,r2)))
theorem e49 (s:ask49.T):evFn E0 (orcOf (fes49 c104)) an49 (loOf (les49)) 16 cd49 Tryz.f49.results.toList rm49 (ask49.mk' s) (decW rsk49 dec49)=B49 c104 s.1.1:=by kernel_rfl
end
noncomputable def an142:Ann:=⟨[(1,[(0, .pt)])],[],[]⟩
noncomputable def cd142:Code:=(Tryz.f142.body).getD .skip
noncomputable def p142:List Pos:=posns an142 [] cd142
noncomputable def rm142:List RM:=[.sh]
noncomputable def rk142 (s0:SbT ask142.bl):KX R142:=retK E0 Tryz.f142.results.toList rm142 (mkB ask142.bl s0) (decW rsk142 dec142)
noncomputable def k142l0:Sk:=⟨[(0, .pre 2000)],[(2000, .own (.it .u64) false)]⟩
noncomputable def les142 (gl0:Int→(List Int)→Option R142):List (LoE R142):=[⟨1,k142l0,fun s=>gl0 s.1.1 s.2.1⟩]
noncomputable def fes142:List FE:=[]
section
variable (gl0:Int→(List Int)→Option R142)
noncomputable def B142l0 (x0:Int) (y0:(List Int)):Option R142:=if x0-0>0 then(if 0≤wrap64 ((x0-0)-1)then(if wrap64 ((x0-0)-1)<x0-0 then(if rd y0 (0+(wrap64 ((x0-0)-1)))=0 then(if(0:Int)≤0 then(if 0≤wrap64 ((x0-0)-1)then(if wrap64 ((x0-0)-1)≤x0-0 then(if x0-0≤x0-0 then(gl0 (0+(wrap64 ((x0-0)-1))) y0)else(none))else(none))else(none))else(none))else(some (x0,y0)))else(none))else(none))else(some (x0,y0))
theorem e142l0 (s0:SbT ask142.bl) (s:k142l0.T):evPos E0 (orcOf (fes142)) 21 an142 (loOf (les142 gl0)) (rk142 s0) (p142.getD 0 ⟨0,[], .skip⟩) (k142l0.mk' s)=B142l0 gl0 s.1.1 s.2.1:=by kernel_rfl
noncomputable def B142 (y0:(List Int)):Option R142:=gl0 (y0.length:Int) y0
theorem e142 (s:ask142.T):evFn E0 (orcOf (fes142)) an142 (loOf (les142 gl0)) 21 cd142 Tryz.f142.results.toList rm142 (ask142.mk' s) (decW rsk142 dec142)=B142 gl0 s.2.1:=by kernel_rfl
end
noncomputable def an141:Ann:=⟨[(3,[(0, .any),(3, .own (.it .u64)),(4, .any)]),(7,[(0, .any),(3, .any),(4, .any),(5, .any),(6, .any)])],[],[]⟩
noncomputable def cd141:Code:=(Tryz.f141.body).getD .skip
noncomputable def p141:List Pos:=posns an141 [] cd141
noncomputable def rm141:List RM:=[.own (.it .u64)]
noncomputable def rk141 (s0:SbT ask141.bl):KX R141:=retK E0 Tryz.f141.results.toList rm141 (mkB ask141.bl s0) (decW rsk141 dec141)
noncomputable def k141l0:Sk:=⟨[(0, .d .st),(3, .f (.a (.ref 3))),(4, .d (.it .i64))],[(3, .own (.it .u64) true)]⟩
noncomputable def k141l1:Sk:=⟨[(0, .d .st),(3, .f (.a (.ref 3))),(4, .d (.it .i64)),(5, .d (.it .u64)),(6, .d (.it .i64))],[(3, .own (.it .u64) true)]⟩
noncomputable def les141 (gl0:ByteArray→Int→(List Int)→Option R141) (gl1:ByteArray→Int→Int→Int→(List Int)→Option R141):List (LoE R141):=[⟨3,k141l0,fun s=>gl0 s.1.1 s.1.2.1 s.2.1⟩,⟨7,k141l1,fun s=>gl1 s.1.1 s.1.2.1 s.1.2.2.1 s.1.2.2.2.1 s.2.1⟩]
noncomputable def fes141 (c142:(List Int)→Option R142):List FE:=[(fe142 c142)]
section
variable (gl0:ByteArray→Int→(List Int)→Option R141) (gl1:ByteArray→Int→Int→Int→(List Int)→Option R141) (c142:(List Int)→Option R142)
noncomputable def B141l0 (x0:ByteArray) (x4:Int) (x3:(List Int)):Option R141:=if x4>0 then(gl1 x0 x4 0 (mx 0 (wrap64 (x4-4))) x3)else((c142 x3).bind fun r1=>(some (r1.2.take (r1.1:Int).toNat)))
theorem e141l0 (s0:SbT ask141.bl) (s:k141l0.T):evPos E0 (orcOf (fes141 c142)) 34 an141 (loOf (les141 gl0 gl1)) (rk141 s0) (p141.getD 0 ⟨0,[], .skip⟩) (k141l0.mk' s)=B141l0 gl1 c142 s.1.1 s.1.2.1 s.2.1:=by kernel_rfl
noncomputable def B141l1 (x0:ByteArray) (x4:Int) (x5:Int) (x6:Int) (x3:(List Int)):Option R141:=if x6<x4 then(if 0≤x6 then(if x6<(x0.size:Int)then(gl1 x0 x4 (IntKind.u64.wrap ((IntKind.u64.wrap (x5*256))+(IntKind.u64.wrap (bt x0 x6)))) (wrap64 (x6+1)) x3)else(none))else(none))else(if(x3.length+1)*8≤140737488355328 then(gl0 x0 (wrap64 (x4-4)) (x3++([x5]:List Int)))else(none))
theorem e141l1 (s0:SbT ask141.bl) (s:k141l1.T):evPos E0 (orcOf (fes141 c142)) 34 an141 (loOf (les141 gl0 gl1)) (rk141 s0) (p141.getD 1 ⟨0,[], .skip⟩) (k141l1.mk' s)=B141l1 gl0 gl1 s.1.1 s.1.2.1 s.1.2.2.1 s.1.2.2.2.1 s.2.1:=by kernel_rfl
noncomputable def B141 (x0:ByteArray):Option R141:=gl0 x0 (x0.size:Int) ([]:List Int)
theorem e141 (s:ask141.T):evFn E0 (orcOf (fes141 c142)) an141 (loOf (les141 gl0 gl1)) 34 cd141 Tryz.f141.results.toList rm141 (ask141.mk' s) (decW rsk141 dec141)=B141 gl0 s.1.1:=by kernel_rfl
end
noncomputable def an150:Ann:=⟨[(5,[(0, .pt),(1, .any),(5, .any)])],[],[]⟩
noncomputable def cd150:Code:=(Tryz.f150.body).getD .skip
noncomputable def p150:List Pos:=posns an150 [] cd150
noncomputable def rm150:List RM:=[.d .bo]
noncomputable def rk150 (s0:SbT ask150.bl):KX R150:=retK E0 Tryz.f150.results.toList rm150 (mkB ask150.bl s0) (decW rsk150 dec150)
noncomputable def k150l0:Sk:=⟨[(0, .pre 2000),(1, .d (.li (.it .u64))),(5, .d (.it .i64))],[(2000, .own (.it .u64) false)]⟩
noncomputable def les150 (gl0:Int→(List Int)→Int→(List Int)→Option R150):List (LoE R150):=[⟨5,k150l0,fun s=>gl0 s.1.1 s.1.2.1 s.1.2.2.1 s.2.1⟩]
noncomputable def fes150 (c142:(List Int)→Option R142):List FE:=[(fe142 c142)]
section
variable (gl0:Int→(List Int)→Int→(List Int)→Option R150) (c142:(List Int)→Option R142)
noncomputable def B150l0 (x0:Int) (x1:(List Int)) (x5:Int) (y0:(List Int)):Option R150:=if x5≥0 then(if 0≤x5 then(if x5<x0-0 then(if 0≤x5 then(if x5<(x1.length:Int)then(if rd y0 (0+x5)≠rd x1 x5 then(if 0≤x5 then(if x5<x0-0 then(if 0≤x5 then(if x5<(x1.length:Int)then(some (decide (rd y0 (0+x5)<rd x1 x5),y0))else(none))else(none))else(none))else(none))else(gl0 x0 x1 (wrap64 (x5-1)) y0))else(none))else(none))else(none))else(none))else(some (false,y0))
theorem e150l0 (s0:SbT ask150.bl) (s:k150l0.T):evPos E0 (orcOf (fes150 c142)) 43 an150 (loOf (les150 gl0)) (rk150 s0) (p150.getD 0 ⟨0,[], .skip⟩) (k150l0.mk' s)=B150l0 gl0 s.1.1 s.1.2.1 s.1.2.2.1 s.2.1:=by kernel_rfl
noncomputable def B150 (x1:(List Int)) (y0:(List Int)):Option R150:=(c142 y0).bind fun r1=>(if r1.1-0≠(x1.length:Int)then(some (decide (r1.1-0<(x1.length:Int)),r1.2))else(gl0 r1.1 x1 (wrap64 ((r1.1-0)-1)) r1.2))
theorem e150 (s:ask150.T):evFn E0 (orcOf (fes150 c142)) an150 (loOf (les150 gl0)) 43 cd150 Tryz.f150.results.toList rm150 (ask150.mk' s) (decW rsk150 dec150)=B150 gl0 c142 s.1.1 s.2.1:=by kernel_rfl
end
noncomputable def an118:Ann:=⟨[(8,[(7, .val (.li (.it .u64))),(8, .any),(9, .any),(10, .any),(11, .any)]),(10,[(7, .any),(8, .any),(9, .any),(10, .any),(11, .any)]),(15,[(7, .val (.li (.it .u64))),(8, .any),(9, .any),(10, .any),(11, .any),(12, .any),(13, .any),(14, .any)])],[],[]⟩
noncomputable def cd118:Code:=(Tryz.f118.body).getD .skip
noncomputable def p118:List Pos:=posns an118 [] cd118
noncomputable def rm118:List RM:=[.d .st, .d .st]
noncomputable def rk118 (s0:SbT ask118.bl):KX R118:=retK E0 Tryz.f118.results.toList rm118 (mkB ask118.bl s0) (decW rsk118 dec118)
noncomputable def k118l0:Sk:=⟨[(7, .d (.li (.it .u64))),(8, .d (.it .i64)),(9, .f (.a (.ref 9))),(10, .f (.a (.ref 10))),(11, .d (.it .i64))],[(9, .own (.it .u64) true),(10, .own (.it .u64) true)]⟩
noncomputable def k118l1:Sk:=⟨[(7, .d (.li (.it .u64))),(8, .d (.it .i64)),(9, .f (.a (.ref 9))),(10, .f (.a (.ref 10))),(11, .d (.it .i64))],[(9, .own (.it .u64) true),(10, .own (.it .u64) true)]⟩
noncomputable def k118l2:Sk:=⟨[(7, .d (.li (.it .u64))),(8, .d (.it .i64)),(9, .f (.a (.ref 9))),(10, .f (.a (.ref 10))),(11, .d (.it .i64)),(12, .d (.it .u64)),(13, .d (.it .u64)),(14, .d (.it .i64))],[(9, .own (.it .u64) true),(10, .own (.it .u64) true)]⟩
noncomputable def les118 (gl0:(List Int)→Int→Int→(List Int)→(List Int)→Option R118) (gl1:(List Int)→Int→Int→(List Int)→(List Int)→Option R118) (gl2:(List Int)→Int→Int→Int→Int→Int→(List Int)→(List Int)→Option R118):List (LoE R118):=[⟨8,k118l0,fun s=>gl0 s.1.1 s.1.2.1 s.1.2.2.1 s.2.1 s.2.2.1⟩,⟨10,k118l1,fun s=>gl1 s.1.1 s.1.2.1 s.1.2.2.1 s.2.1 s.2.2.1⟩,⟨15,k118l2,fun s=>gl2 s.1.1 s.1.2.1 s.1.2.2.1 s.1.2.2.2.1 s.1.2.2.2.2.1 s.1.2.2.2.2.2.1 s.2.1 s.2.2.1⟩]
noncomputable def fes118 (c140:(List Int)→Option R140) (c141:ByteArray→Option R141) (c150:(List Int)→(List Int)→Option R150):List FE:=[(fe140 c140),(fe141 c141),(fe150 c150)]
section
variable (gl0:(List Int)→Int→Int→(List Int)→(List Int)→Option R118) (gl1:(List Int)→Int→Int→(List Int)→(List Int)→Option R118) (gl2:(List Int)→Int→Int→Int→Int→Int→(List Int)→(List Int)→Option R118) (c140:(List Int)→Option R140) (c141:ByteArray→Option R141) (c150:(List Int)→(List Int)→Option R150)
noncomputable def B118l0 (x7:(List Int)) (x8:Int) (x11:Int) (x9:(List Int)) (x10:(List Int)):Option R118:=if x11≥0 then(gl1 x7 x8 x11 x9 x10)else((c140 x10).bind fun r1=>((c140 x9).bind fun r2=>(some (r1,r2))))
theorem e118l0 (s0:SbT ask118.bl) (s:k118l0.T):evPos E0 (orcOf (fes118 c140 c141 c150)) 148 an118 (loOf (les118 gl0 gl1 gl2)) (rk118 s0) (p118.getD 0 ⟨0,[], .skip⟩) (k118l0.mk' s)=B118l0 gl1 c140 s.1.1 s.1.2.1 s.1.2.2.1 s.2.1 s.2.2.1:=by kernel_rfl
noncomputable def B118l1 (x7:(List Int)) (x8:Int) (x11:Int) (x9:(List Int)) (x10:(List Int)):Option R118:=if 0≤x11 then(if x11≤(x9.length:Int)then(if(x9.length:Int)≤(x9.length:Int)then(if(x9.length:Int)≤(x9.length:Int)then((c150 x7 (slice_ x9 x11 (x9.length:Int))).bind fun r1=>(cnd ((!r1.1)) (if 0≤wrap64 (x11+x8)then(if wrap64 (x11+x8)<((x9.take ((x11:Int).toNat)++r1.2++x9.drop (((x9.length:Int):Int).toNat)).length:Int)then(if(0:Int)≤32 then(if 0≤wrap64 ((wrap64 (x11+x8))-1)then(if wrap64 ((wrap64 (x11+x8))-1)<((x9.take ((x11:Int).toNat)++r1.2++x9.drop (((x9.length:Int):Int).toNat)).length:Int)then(if 0≤wrap64 (x8-1)then(if wrap64 (x8-1)<(x7.length:Int)then(if IntKind.u64.wrap ((rd x7 (wrap64 (x8-1)))+1)=0 then(none)else(if 0≤x11 then(if x11<(x10.length:Int)then(if 0≤x11 then(if x11<(x10.length:Int)then(gl2 x7 x8 x11 (mx 1 (IntKind.u64.wrap (Int.tdiv (IntKind.u64.wrap ((IntKind.u64.wrap ((rd (x9.take ((x11:Int).toNat)++r1.2++x9.drop (((x9.length:Int):Int).toNat)) (wrap64 (x11+x8)))*4294967296))+(rd (x9.take ((x11:Int).toNat)++r1.2++x9.drop (((x9.length:Int):Int).toNat)) (wrap64 ((wrap64 (x11+x8))-1))))) (IntKind.u64.wrap ((rd x7 (wrap64 (x8-1)))+1))))) 0 0 (x9.take ((x11:Int).toNat)++r1.2++x9.drop (((x9.length:Int):Int).toNat)) (x10.set (x11:Int).toNat (IntKind.u64.wrap ((rd x10 x11)+(mx 1 (IntKind.u64.wrap (Int.tdiv (IntKind.u64.wrap ((IntKind.u64.wrap ((rd (x9.take ((x11:Int).toNat)++r1.2++x9.drop (((x9.length:Int):Int).toNat)) (wrap64 (x11+x8)))*4294967296))+(rd (x9.take ((x11:Int).toNat)++r1.2++x9.drop (((x9.length:Int):Int).toNat)) (wrap64 ((wrap64 (x11+x8))-1))))) (IntKind.u64.wrap ((rd x7 (wrap64 (x8-1)))+1)))))))))else(none))else(none))else(none))else(none)))else(none))else(none))else(none))else(none))else(none))else(none))else(none)) (gl0 x7 x8 (wrap64 (x11-1)) (x9.take ((x11:Int).toNat)++r1.2++x9.drop (((x9.length:Int):Int).toNat)) x10)))else(none))else(none))else(none))else(none)
theorem e118l1 (s0:SbT ask118.bl) (s:k118l1.T):evPos E0 (orcOf (fes118 c140 c141 c150)) 148 an118 (loOf (les118 gl0 gl1 gl2)) (rk118 s0) (p118.getD 1 ⟨0,[], .skip⟩) (k118l1.mk' s)=B118l1 gl0 gl2 c150 s.1.1 s.1.2.1 s.1.2.2.1 s.2.1 s.2.2.1:=by kernel_rfl
noncomputable def B118l2 (x7:(List Int)) (x8:Int) (x11:Int) (x12:Int) (x13:Int) (x14:Int) (x9:(List Int)) (x10:(List Int)):Option R118:=if x14<x8 then(if 0≤x14 then(if x14<(x7.length:Int)then(if(0:Int)≤32 then(if 0≤wrap64 (x11+x14)then(if wrap64 (x11+x14)<(x9.length:Int)then(if rd x9 (wrap64 (x11+x14))<Go.bits .and .u64 (IntKind.u64.wrap ((IntKind.u64.wrap ((rd x7 x14)*x12))+x13)) 4294967295 then(if 0≤wrap64 (x11+x14)then(if wrap64 (x11+x14)<(x9.length:Int)then(if 0≤wrap64 (x11+x14)then(if wrap64 (x11+x14)<(x9.length:Int)then(if 0≤wrap64 (x11+x14)then(if wrap64 (x11+x14)<((x9.set (wrap64 (x11+x14):Int).toNat (IntKind.u64.wrap ((rd x9 (wrap64 (x11+x14)))+4294967296))).length:Int)then(if 0≤wrap64 (x11+x14)then(if wrap64 (x11+x14)<((x9.set (wrap64 (x11+x14):Int).toNat (IntKind.u64.wrap ((rd x9 (wrap64 (x11+x14)))+4294967296))).length:Int)then(gl2 x7 x8 x11 x12 (IntKind.u64.wrap (((IntKind.u64.wrap ((IntKind.u64.wrap ((rd x7 x14)*x12))+x13))/4294967296)+1)) (wrap64 (x14+1)) ((x9.set (wrap64 (x11+x14):Int).toNat (IntKind.u64.wrap ((rd x9 (wrap64 (x11+x14)))+4294967296))).set (wrap64 (x11+x14):Int).toNat (IntKind.u64.wrap ((rd (x9.set (wrap64 (x11+x14):Int).toNat (IntKind.u64.wrap ((rd x9 (wrap64 (x11+x14)))+4294967296))) (wrap64 (x11+x14)))-(Go.bits .and .u64 (IntKind.u64.wrap ((IntKind.u64.wrap ((rd x7 x14)*x12))+x13)) 4294967295)))) x10)else(none))else(none))else(none))else(none))else(none))else(none))else(none))else(none))else(if 0≤wrap64 (x11+x14)then(if wrap64 (x11+x14)<(x9.length:Int)then(if 0≤wrap64 (x11+x14)then(if wrap64 (x11+x14)<(x9.length:Int)then(gl2 x7 x8 x11 x12 ((IntKind.u64.wrap ((IntKind.u64.wrap ((rd x7 x14)*x12))+x13))/4294967296) (wrap64 (x14+1)) (x9.set (wrap64 (x11+x14):Int).toNat (IntKind.u64.wrap ((rd x9 (wrap64 (x11+x14)))-(Go.bits .and .u64 (IntKind.u64.wrap ((IntKind.u64.wrap ((rd x7 x14)*x12))+x13)) 4294967295)))) x10)else(none))else(none))else(none))else(none)))else(none))else(none))else(none))else(none))else(none))else(if 0≤wrap64 (x11+x8)then(if wrap64 (x11+x8)<(x9.length:Int)then(if 0≤wrap64 (x11+x8)then(if wrap64 (x11+x8)<(x9.length:Int)then(gl1 x7 x8 x11 (x9.set (wrap64 (x11+x8):Int).toNat (IntKind.u64.wrap ((rd x9 (wrap64 (x11+x8)))-x13))) x10)else(none))else(none))else(none))else(none))
theorem e118l2 (s0:SbT ask118.bl) (s:k118l2.T):evPos E0 (orcOf (fes118 c140 c141 c150)) 148 an118 (loOf (les118 gl0 gl1 gl2)) (rk118 s0) (p118.getD 2 ⟨0,[], .skip⟩) (k118l2.mk' s)=B118l2 gl1 gl2 s.1.1 s.1.2.1 s.1.2.2.1 s.1.2.2.2.1 s.1.2.2.2.2.1 s.1.2.2.2.2.2.1 s.2.1 s.2.2.1:=by kernel_rfl
noncomputable def B118 (x0:ByteArray) (x1:ByteArray):Option R118:=cnd ((x1.toList==(⟨#[]⟩:ByteArray).toList)) (some ((⟨#[]⟩:ByteArray),(⟨#[]⟩:ByteArray))) ((c141 x0).bind fun r1=>((c141 x1).bind fun r2=>(if(r1.length+1)*8≤140737488355328 then(if 0≤mx 0 (wrap64 ((wrap64 ((r1.length:Int)-(r2.length:Int)))+1))then(if mx 0 (wrap64 ((wrap64 ((r1.length:Int)-(r2.length:Int)))+1))≤mx 0 (wrap64 ((wrap64 ((r1.length:Int)-(r2.length:Int)))+1))then(if(mx 0 (wrap64 ((wrap64 ((r1.length:Int)-(r2.length:Int)))+1)):Int).toNat≤35184372088832 then(gl0 r2 (r2.length:Int) (wrap64 (((List.replicate (mx 0 (wrap64 ((wrap64 ((r1.length:Int)-(r2.length:Int)))+1)):Int).toNat (0:Int)).length:Int)-1)) (r1++([0]:List Int)) (List.replicate (mx 0 (wrap64 ((wrap64 ((r1.length:Int)-(r2.length:Int)))+1)):Int).toNat (0:Int)))else(none))else(none))else(none))else(none))))
theorem e118 (s:ask118.T):evFn E0 (orcOf (fes118 c140 c141 c150)) an118 (loOf (les118 gl0 gl1 gl2)) 148 cd118 Tryz.f118.results.toList rm118 (ask118.mk' s) (decW rsk118 dec118)=B118 gl0 c141 s.1.1 s.1.2.1:=by kernel_rfl
end
noncomputable def an64:Ann:=⟨[(1,[(0, .any),(1, .any)])],[],[]⟩
noncomputable def cd64:Code:=(Tryz.f64.body).getD .skip
noncomputable def p64:List Pos:=posns an64 [] cd64
noncomputable def rm64:List RM:=[.d .st]
noncomputable def rk64 (s0:SbT ask64.bl):KX R64:=retK E0 Tryz.f64.results.toList rm64 (mkB ask64.bl s0) (decW rsk64 dec64)
noncomputable def k64l0:Sk:=⟨[(0, .d .st),(1, .d .st)],[]⟩
noncomputable def les64 (gl0:ByteArray→ByteArray→Option R64):List (LoE R64):=[⟨1,k64l0,fun s=>gl0 s.1.1 s.1.2.1⟩]
noncomputable def fes64 (c118:ByteArray→ByteArray→Option R118):List FE:=[(fe118 c118)]
section
variable (gl0:ByteArray→ByteArray→Option R64) (c118:ByteArray→ByteArray→Option R118)
noncomputable def B64l0 (x0:ByteArray) (x1:ByteArray):Option R64:=cnd ((!(x1.toList==(⟨#[]⟩:ByteArray).toList))) ((c118 x0 x1).bind fun r1=>(gl0 x1 r1.2)) (some x0)
theorem e64l0 (s0:SbT ask64.bl) (s:k64l0.T):evPos E0 (orcOf (fes64 c118)) 18 an64 (loOf (les64 gl0)) (rk64 s0) (p64.getD 0 ⟨0,[], .skip⟩) (k64l0.mk' s)=B64l0 gl0 c118 s.1.1 s.1.2.1:=by kernel_rfl
noncomputable def B64 (x0:ByteArray) (x1:ByteArray):Option R64:=gl0 x0 x1
theorem e64 (s:ask64.T):evFn E0 (orcOf (fes64 c118)) an64 (loOf (les64 gl0)) 18 cd64 Tryz.f64.results.toList rm64 (ask64.mk' s) (decW rsk64 dec64)=B64 gl0 s.1.1 s.1.2.1:=by kernel_rfl
end
noncomputable def an123:Ann:=⟨[],[],[]⟩
noncomputable def cd123:Code:=(Tryz.f123.body).getD .skip
noncomputable def rm123:List RM:=[.d (.ag (.pr .bo .st))]
noncomputable def les123:List (LoE R123):=[]
noncomputable def fes123:List FE:=[]
noncomputable def B123 (x0:Bool) (x1:ByteArray):Option R123:=cnd (x0) (some ((!(x1.toList==(⟨#[]⟩:ByteArray).toList)),x1)) (some (false,x1))
theorem e123 (s:ask123.T):evFn E0 (orcOf (fes123)) an123 (loOf (les123)) 12 cd123 Tryz.f123.results.toList rm123 (ask123.mk' s) (decW rsk123 dec123)=B123 s.1.1 s.1.2.1:=by kernel_rfl
noncomputable def an90:Ann:=⟨[],[],[]⟩
noncomputable def cd90:Code:=(Tryz.f90.body).getD .skip
noncomputable def rm90:List RM:=[.d (.ag (.pr (.ag (.pr .bo .st)) .st))]
noncomputable def les90:List (LoE R90):=[]
noncomputable def fes90 (c64:ByteArray→ByteArray→Option R64) (c118:ByteArray→ByteArray→Option R118) (c123:Bool→ByteArray→Option R123):List FE:=[(fe64 c64),(fe118 c118),(fe123 c123)]
section
variable (c64:ByteArray→ByteArray→Option R64) (c118:ByteArray→ByteArray→Option R118) (c123:Bool→ByteArray→Option R123)
noncomputable def B90 (x0:TI) (x1:TI):Option R90:=cnd ((x1.2.toList==(⟨#[]⟩:ByteArray).toList)) (some ((false,(⟨#[]⟩:ByteArray)),(⟨#[1]⟩:ByteArray))) ((c64 x0.2 x1.2).bind fun r1=>((c118 x0.2 r1).bind fun r2=>((c118 x1.2 r1).bind fun r3=>((c123 (!(x0.1==x1.1)) r2.1).bind fun r4=>(some ((r4.1,r4.2),r3.1))))))
theorem e90 (s:ask90.T):evFn E0 (orcOf (fes90 c64 c118 c123)) an90 (loOf (les90)) 42 cd90 Tryz.f90.results.toList rm90 (ask90.mk' s) (decW rsk90 dec90)=B90 c64 c118 c123 s.1.1 s.1.2.1:=by kernel_rfl
end
noncomputable def an69:Ann:=⟨[],[],[]⟩
noncomputable def cd69:Code:=(Tryz.f69.body).getD .skip
noncomputable def rm69:List RM:=[.d (.ag (.pr (.ag (.pr .bo .st)) .st))]
noncomputable def les69:List (LoE R69):=[]
noncomputable def fes69 (c49:Int→Option R49) (c90:TI→TI→Option R90):List FE:=[(fe49 c49),(fe90 c90)]
section
variable (c49:Int→Option R49) (c90:TI→TI→Option R90)
noncomputable def B69 (x0:Int) (x1:Int):Option R69:=(c49 x0).bind fun r1=>((c49 x1).bind fun r2=>((c90 (r1.1,r1.2) (r2.1,r2.2)).bind fun r3=>(some (r3.1,r3.2))))
theorem e69 (s:ask69.T):evFn E0 (orcOf (fes69 c49 c90)) an69 (loOf (les69)) 10 cd69 Tryz.f69.results.toList rm69 (ask69.mk' s) (decW rsk69 dec69)=B69 c49 c90 s.1.1 s.1.2.1:=by kernel_rfl
end
noncomputable def an30:Ann:=⟨[],[],[]⟩
noncomputable def cd30:Code:=(Tryz.f30.body).getD .skip
noncomputable def rm30:List RM:=[.d (.ag (.pr (.ag (.pr .bo .st)) .st))]
noncomputable def les30:List (LoE R30):=[]
noncomputable def fes30 (c69:Int→Int→Option R69):List FE:=[(fe69 c69)]
section
variable (c69:Int→Int→Option R69)
noncomputable def B30 (x0:Int) (x1:Int):Option R30:=(c69 x0 x1).bind fun r1=>(some (r1.1,r1.2))
theorem e30 (s:ask30.T):evFn E0 (orcOf (fes30 c69)) an30 (loOf (les30)) 8 cd30 Tryz.f30.results.toList rm30 (ask30.mk' s) (decW rsk30 dec30)=B30 c69 s.1.1 s.1.2.1:=by kernel_rfl
end
noncomputable def an168:Ann:=⟨[],[],[]⟩
noncomputable def cd168:Code:=(Tryz.f168.body).getD .skip
noncomputable def rm168:List RM:=[.d (.it .i64)]
noncomputable def les168:List (LoE R168):=[]
noncomputable def fes168 (c172:ByteArray→Int→Option R172):List FE:=[(fe172 c172)]
section
variable (c172:ByteArray→Int→Option R172)
noncomputable def B168 (x0:ByteArray) (x1:Int):Option R168:=(c172 x0 x1).bind fun r1=>(some r1)
theorem e168 (s:ask168.T):evFn E0 (orcOf (fes168 c172)) an168 (loOf (les168)) 8 cd168 Tryz.f168.results.toList rm168 (ask168.mk' s) (decW rsk168 dec168)=B168 c172 s.1.1 s.1.2.1:=by kernel_rfl
end
noncomputable def an158:Ann:=⟨[(15,[(0, .any),(1, .any),(5, .any),(6, .any),(7, .any),(8, .any),(9, .any),(10, .any),(85, .any),(86, .any),(87, .any),(88, .any),(89, .any),(90, .any),(91, .any),(92, .any),(103, .any),(104, .any),(105, .any),(106, .any),(122, .any),(123, .any),(124, .any),(125, .any),(126, .any),(129, .any),(130, .any),(131, .any)])],[],[]⟩
noncomputable def cd158:Code:=(Tryz.f158.body).getD .skip
noncomputable def p158:List Pos:=posns an158 [] cd158
noncomputable def rm158:List RM:=[.d (.it .i64)]
noncomputable def k158l0:Sk:=⟨[],[]⟩
noncomputable def les158 (gl0:Option R158):List (LoE R158):=[⟨15,k158l0,fun s=>gl0⟩]
noncomputable def fes158 (c168:ByteArray→Int→Option R168):List FE:=[(fe168 c168)]
section
variable (gl0:Option R158) (c168:ByteArray→Int→Option R168)
noncomputable def B158l0:Option R158:=none
noncomputable def B158 (x0:ByteArray) (x1:ByteArray):Option R158:=if(x1.size:Int)=0 then(some 0)else(cnd ((x1.toList==x0.toList)) (some 0) (if(x1.size:Int)=1 then(if(0:Int)≤0 then(if 0<(x1.size:Int)then((c168 x0 (bt x1 0)).bind fun r1=>(some r1))else(none))else(none))else(if(x1.size:Int)≥(x0.size:Int)then(some (-1))else(none))))
theorem e158 (s:ask158.T):evFn E0 (orcOf (fes158 c168)) an158 (loOf (les158 gl0)) 143 cd158 Tryz.f158.results.toList rm158 (ask158.mk' s) (decW rsk158 dec158)=B158 c168 s.1.1 s.1.2.1:=by kernel_rfl
end
noncomputable def an137:Ann:=⟨[],[],[]⟩
noncomputable def cd137:Code:=(Tryz.f137.body).getD .skip
noncomputable def rm137:List RM:=[.d .st, .d .st, .d .bo]
noncomputable def les137:List (LoE R137):=[]
noncomputable def fes137 (c158:ByteArray→ByteArray→Option R158):List FE:=[(fe158 c158)]
section
variable (c158:ByteArray→ByteArray→Option R158)
noncomputable def B137 (x0:ByteArray) (x1:ByteArray):Option R137:=(c158 x0 x1).bind fun r1=>(if r1≥0 then(if(0:Int)≤0 then(if 0≤r1 then(if r1≤(x0.size:Int)then(if(x0.size:Int)≤(x0.size:Int)then(if 0≤wrap64 (r1+(x1.size:Int))then(if wrap64 (r1+(x1.size:Int))≤(x0.size:Int)then(if(x0.size:Int)≤(x0.size:Int)then(if(x0.size:Int)≤(x0.size:Int)then(some (x0.extract ((0:Int).toNat) ((r1:Int).toNat),x0.extract ((wrap64 (r1+(x1.size:Int)):Int).toNat) (((x0.size:Int):Int).toNat),true))else(none))else(none))else(none))else(none))else(none))else(none))else(none))else(none))else(some (x0,(⟨#[]⟩:ByteArray),false)))
theorem e137 (s:ask137.T):evFn E0 (orcOf (fes137 c158)) an137 (loOf (les137)) 23 cd137 Tryz.f137.results.toList rm137 (ask137.mk' s) (decW rsk137 dec137)=B137 c158 s.1.1 s.1.2.1:=by kernel_rfl
end
noncomputable def an96:Ann:=⟨[],[],[]⟩
noncomputable def cd96:Code:=(Tryz.f96.body).getD .skip
noncomputable def rm96:List RM:=[.d .st, .d .st, .d .bo]
noncomputable def les96:List (LoE R96):=[]
noncomputable def fes96 (c137:ByteArray→ByteArray→Option R137):List FE:=[(fe137 c137)]
section
variable (c137:ByteArray→ByteArray→Option R137)
noncomputable def B96 (x0:ByteArray) (x1:ByteArray):Option R96:=(c137 x0 x1).bind fun r1=>(some (r1.1,r1.2.1,r1.2.2))
theorem e96 (s:ask96.T):evFn E0 (orcOf (fes96 c137)) an96 (loOf (les96)) 13 cd96 Tryz.f96.results.toList rm96 (ask96.mk' s) (decW rsk96 dec96)=B96 c137 s.1.1 s.1.2.1:=by kernel_rfl
end
noncomputable def an139:Ann:=⟨[],[],[]⟩
noncomputable def cd139:Code:=(Tryz.f139.body).getD .skip
noncomputable def rm139:List RM:=[.d .st, .d (.it .i64)]
noncomputable def les139:List (LoE R139):=[]
noncomputable def fes139:List FE:=[]
noncomputable def B139 (x0:ByteArray):Option R139:=if(x0.size:Int)>1024 then(some ((⟨#[]⟩:ByteArray),4))else(some (x0,0))
theorem e139 (s:ask139.T):evFn E0 (orcOf (fes139)) an139 (loOf (les139)) 8 cd139 Tryz.f139.results.toList rm139 (ask139.mk' s) (decW rsk139 dec139)=B139 s.1.1:=by kernel_rfl
noncomputable def an98:Ann:=⟨[(6,[(0, .any),(26, .any),(27, .any)]),(13,[(0, .any),(5, .any),(6, .any)]),(16,[(0, .any),(5, .any),(6, .any),(7, .any),(8, .any),(9, .any)])],[],[]⟩
noncomputable def cd98:Code:=(Tryz.f98.body).getD .skip
noncomputable def p98:List Pos:=posns an98 [] cd98
noncomputable def rm98:List RM:=[.d .st, .d (.it .i64)]
noncomputable def rk98 (s0:SbT ask98.bl):KX R98:=retK E0 Tryz.f98.results.toList rm98 (mkB ask98.bl s0) (decW rsk98 dec98)
noncomputable def k98l0:Sk:=⟨[(0, .d .st),(26, .d (.it .i64)),(27, .d (.it .i64))],[]⟩
noncomputable def k98l1:Sk:=⟨[(0, .d .st),(5, .d .st),(6, .d (.it .i64))],[]⟩
noncomputable def k98l2:Sk:=⟨[(0, .d .st),(5, .d .st),(6, .d (.it .i64)),(7, .d (.it .i64)),(8, .d (.it .u64)),(9, .d (.it .u64))],[]⟩
noncomputable def les98 (gl0:ByteArray→Int→Int→Option R98) (gl1:ByteArray→ByteArray→Int→Option R98) (gl2:ByteArray→ByteArray→Int→Int→Int→Int→Option R98):List (LoE R98):=[⟨6,k98l0,fun s=>gl0 s.1.1 s.1.2.1 s.1.2.2.1⟩,⟨13,k98l1,fun s=>gl1 s.1.1 s.1.2.1 s.1.2.2.1⟩,⟨16,k98l2,fun s=>gl2 s.1.1 s.1.2.1 s.1.2.2.1 s.1.2.2.2.1 s.1.2.2.2.2.1 s.1.2.2.2.2.2.1⟩]
noncomputable def fes98 (c109:ByteArray→ByteArray→Option R109) (c135:Int→Option R135) (c138:ByteArray→ByteArray→Option R138) (c139:ByteArray→Option R139):List FE:=[(fe109 c109),(fe135 c135),(fe138 c138),(fe139 c139)]
section
variable (gl0:ByteArray→Int→Int→Option R98) (gl1:ByteArray→ByteArray→Int→Option R98) (gl2:ByteArray→ByteArray→Int→Int→Int→Int→Option R98) (c109:ByteArray→ByteArray→Option R109) (c135:Int→Option R135) (c138:ByteArray→ByteArray→Option R138) (c139:ByteArray→Option R139)
noncomputable def B98l0 (x0:ByteArray) (x26:Int) (x27:Int):Option R98:=if x27<x26 then(if 0≤x27 then(if x27<(x0.size:Int)then(if bt x0 x27<48 then(some ((⟨#[]⟩:ByteArray),11))else(if 0≤x27 then(if x27<(x0.size:Int)then(if bt x0 x27>57 then(some ((⟨#[]⟩:ByteArray),11))else(gl0 x0 x26 (wrap64 (x27+1))))else(none))else(none)))else(none))else(none))else(gl1 x0 (⟨#[]⟩:ByteArray) 0)
theorem e98l0 (s0:SbT ask98.bl) (s:k98l0.T):evPos E0 (orcOf (fes98 c109 c135 c138 c139)) 76 an98 (loOf (les98 gl0 gl1 gl2)) (rk98 s0) (p98.getD 0 ⟨0,[], .skip⟩) (k98l0.mk' s)=B98l0 gl0 gl1 s.1.1 s.1.2.1 s.1.2.2.1:=by kernel_rfl
noncomputable def B98l1 (x0:ByteArray) (x5:ByteArray) (x6:Int):Option R98:=if x6<(x0.size:Int)then(gl2 x0 x5 x6 (mn (x0.size:Int) (wrap64 (x6+18))) 0 1)else((c139 x5).bind fun r1=>(some (r1.1,r1.2)))
theorem e98l1 (s0:SbT ask98.bl) (s:k98l1.T):evPos E0 (orcOf (fes98 c109 c135 c138 c139)) 76 an98 (loOf (les98 gl0 gl1 gl2)) (rk98 s0) (p98.getD 1 ⟨0,[], .skip⟩) (k98l1.mk' s)=B98l1 gl2 c139 s.1.1 s.1.2.1 s.1.2.2.1:=by kernel_rfl
noncomputable def B98l2 (x0:ByteArray) (x5:ByteArray) (x6:Int) (x7:Int) (x8:Int) (x9:Int):Option R98:=if x6<x7 then(if 0≤x6 then(if x6<(x0.size:Int)then(gl2 x0 x5 (wrap64 (x6+1)) x7 (IntKind.u64.wrap ((IntKind.u64.wrap (10*x8))+(IntKind.u64.wrap (IntKind.u8.wrap ((bt x0 x6)-48))))) (IntKind.u64.wrap (10*x9)))else(none))else(none))else((c135 x9).bind fun r1=>((c109 x5 r1).bind fun r2=>((c135 x8).bind fun r3=>((c138 r2 r3).bind fun r4=>(gl1 x0 r4 x6)))))
theorem e98l2 (s0:SbT ask98.bl) (s:k98l2.T):evPos E0 (orcOf (fes98 c109 c135 c138 c139)) 76 an98 (loOf (les98 gl0 gl1 gl2)) (rk98 s0) (p98.getD 2 ⟨0,[], .skip⟩) (k98l2.mk' s)=B98l2 gl1 gl2 c109 c135 c138 s.1.1 s.1.2.1 s.1.2.2.1 s.1.2.2.2.1 s.1.2.2.2.2.1 s.1.2.2.2.2.2.1:=by kernel_rfl
noncomputable def B98 (x0:ByteArray):Option R98:=if(x0.size:Int)>4096 then(some ((⟨#[]⟩:ByteArray),12))else(cnd ((x0.toList==(⟨#[]⟩:ByteArray).toList)) (some ((⟨#[]⟩:ByteArray),11)) (if(0:Int)≤0 then(if 0<(x0.size:Int)then(if bt x0 0=48 then(if(x0.size:Int)>1 then(some ((⟨#[]⟩:ByteArray),11))else(gl0 x0 (x0.size:Int) 0))else(gl0 x0 (x0.size:Int) 0))else(none))else(none)))
theorem e98 (s:ask98.T):evFn E0 (orcOf (fes98 c109 c135 c138 c139)) an98 (loOf (les98 gl0 gl1 gl2)) 76 cd98 Tryz.f98.results.toList rm98 (ask98.mk' s) (decW rsk98 dec98)=B98 gl0 s.1.1:=by kernel_rfl
end
noncomputable def an97:Ann:=⟨[],[],[]⟩
noncomputable def cd97:Code:=(Tryz.f97.body).getD .skip
noncomputable def rm97:List RM:=[.d (.ag (.pr .bo .st)), .d (.it .i64)]
noncomputable def les97:List (LoE R97):=[]
noncomputable def fes97 (c98:ByteArray→Option R98) (c128:Option R128):List FE:=[(fe98 c98),(fe128 c128)]
section
variable (c98:ByteArray→Option R98) (c128:Option R128)
noncomputable def B97 (x0:ByteArray):Option R97:=if(x0.size:Int)>4096 then((c128).bind fun r1=>(some (r1.1,r1.2,12)))else(if(x0.size:Int)>0 then(if(0:Int)≤0 then(if 0<(x0.size:Int)then(if bt x0 0=45 then(if(0:Int)≤1 then(if 1≤(x0.size:Int)then(if(x0.size:Int)≤(x0.size:Int)then(if(x0.size:Int)≤(x0.size:Int)then((c98 (x0.extract ((1:Int).toNat) (((x0.size:Int):Int).toNat))).bind fun r2=>(if r2.2≠0 then((c128).bind fun r3=>(some (r3.1,r3.2,r2.2)))else(if bt x0 0=45 then(cnd ((r2.1.toList==(⟨#[]⟩:ByteArray).toList)) ((c128).bind fun r4=>(some (r4.1,r4.2,11))) (some (decide (bt x0 0=45),r2.1,0)))else(some (decide (bt x0 0=45),r2.1,0)))))else(none))else(none))else(none))else(none))else((c98 x0).bind fun r5=>(if r5.2≠0 then((c128).bind fun r6=>(some (r6.1,r6.2,r5.2)))else(if bt x0 0=45 then(cnd ((r5.1.toList==(⟨#[]⟩:ByteArray).toList)) ((c128).bind fun r7=>(some (r7.1,r7.2,11))) (some (decide (bt x0 0=45),r5.1,0)))else(some (decide (bt x0 0=45),r5.1,0))))))else(none))else(none))else((c98 x0).bind fun r8=>(if r8.2≠0 then((c128).bind fun r9=>(some (r9.1,r9.2,r8.2)))else(some (false,r8.1,0)))))
theorem e97 (s:ask97.T):evFn E0 (orcOf (fes97 c98 c128)) an97 (loOf (les97)) 40 cd97 Tryz.f97.results.toList rm97 (ask97.mk' s) (decW rsk97 dec97)=B97 c98 c128 s.1.1:=by kernel_rfl
end
noncomputable def an45:Ann:=⟨[],[],[]⟩
noncomputable def cd45:Code:=(Tryz.f45.body).getD .skip
noncomputable def rm45:List RM:=[.d (.ag (.pr (.ag (.pr .bo .st)) .st)), .d (.it .i64)]
noncomputable def les45:List (LoE R45):=[]
noncomputable def fes45 (c34:TQ→Option R34) (c96:ByteArray→ByteArray→Option R96) (c97:ByteArray→Option R97) (c98:ByteArray→Option R98):List FE:=[(fe34 c34),(fe96 c96),(fe97 c97),(fe98 c98)]
section
variable (c34:TQ→Option R34) (c96:ByteArray→ByteArray→Option R96) (c97:ByteArray→Option R97) (c98:ByteArray→Option R98)
noncomputable def B45 (x0:ByteArray):Option R45:=if(x0.size:Int)>4096 then(some ((false,(⟨#[]⟩:ByteArray)),(⟨#[]⟩:ByteArray),12))else((c96 x0 (⟨#[47]⟩:ByteArray)).bind fun r1=>((c97 r1.1).bind fun r2=>(cnd (r1.2.2) ((c98 r1.2.1).bind fun r3=>(if r2.2.2=11 then(some ((false,(⟨#[]⟩:ByteArray)),(⟨#[]⟩:ByteArray),11))else(if r3.2=11 then(some ((false,(⟨#[]⟩:ByteArray)),(⟨#[]⟩:ByteArray),11))else(if r2.2.2≠0 then(some ((false,(⟨#[]⟩:ByteArray)),(⟨#[]⟩:ByteArray),4))else(if r3.2≠0 then(some ((false,(⟨#[]⟩:ByteArray)),(⟨#[]⟩:ByteArray),4))else(cnd (r1.2.2) (cnd ((r3.1.toList==(⟨#[]⟩:ByteArray).toList)) (some ((false,(⟨#[]⟩:ByteArray)),(⟨#[]⟩:ByteArray),1)) (cnd ((r3.1.toList==(⟨#[1]⟩:ByteArray).toList)) (some ((false,(⟨#[]⟩:ByteArray)),(⟨#[]⟩:ByteArray),1)) ((c34 ((r2.1,r2.2.1),r3.1)).bind fun r4=>(if r4≠0 then(some ((false,(⟨#[]⟩:ByteArray)),(⟨#[]⟩:ByteArray),r4))else(some ((r2.1,r2.2.1),r3.1,0)))))) ((c34 ((r2.1,r2.2.1),r3.1)).bind fun r5=>(if r5≠0 then(some ((false,(⟨#[]⟩:ByteArray)),(⟨#[]⟩:ByteArray),r5))else(some ((r2.1,r2.2.1),r3.1,0)))))))))) (if r2.2.2=11 then(some ((false,(⟨#[]⟩:ByteArray)),(⟨#[]⟩:ByteArray),11))else(if r2.2.2≠0 then(some ((false,(⟨#[]⟩:ByteArray)),(⟨#[]⟩:ByteArray),4))else(cnd (r1.2.2) (cnd (((⟨#[1]⟩:ByteArray).toList==(⟨#[]⟩:ByteArray).toList)) (some ((false,(⟨#[]⟩:ByteArray)),(⟨#[]⟩:ByteArray),1)) (cnd (((⟨#[1]⟩:ByteArray).toList==(⟨#[1]⟩:ByteArray).toList)) (some ((false,(⟨#[]⟩:ByteArray)),(⟨#[]⟩:ByteArray),1)) ((c34 ((r2.1,r2.2.1),(⟨#[1]⟩:ByteArray))).bind fun r6=>(if r6≠0 then(some ((false,(⟨#[]⟩:ByteArray)),(⟨#[]⟩:ByteArray),r6))else(some ((r2.1,r2.2.1),(⟨#[1]⟩:ByteArray),0)))))) ((c34 ((r2.1,r2.2.1),(⟨#[1]⟩:ByteArray))).bind fun r7=>(if r7≠0 then(some ((false,(⟨#[]⟩:ByteArray)),(⟨#[]⟩:ByteArray),r7))else(some ((r2.1,r2.2.1),(⟨#[1]⟩:ByteArray),0))))))))))
theorem e45 (s:ask45.T):evFn E0 (orcOf (fes45 c34 c96 c97 c98)) an45 (loOf (les45)) 71 cd45 Tryz.f45.results.toList rm45 (ask45.mk' s) (decW rsk45 dec45)=B45 c34 c96 c97 c98 s.1.1:=by kernel_rfl
end
noncomputable def an48:Ann:=⟨[],[],[]⟩
noncomputable def cd48:Code:=(Tryz.f48.body).getD .skip
noncomputable def rm48:List RM:=[.d (.ag (.pr (.ag (.pr .bo .st)) .st)), .d (.it .i64)]
noncomputable def les48:List (LoE R48):=[]
noncomputable def fes48 (c53:Int→Int→Option R53):List FE:=[(fe53 c53)]
section
variable (c53:Int→Int→Option R53)
noncomputable def B48 (x0:Int) (x1:Int):Option R48:=if x1=0 then(some ((false,(⟨#[]⟩:ByteArray)),(⟨#[]⟩:ByteArray),6))else((c53 x0 x1).bind fun r1=>(some (r1.1,r1.2,0)))
theorem e48 (s:ask48.T):evFn E0 (orcOf (fes48 c53)) an48 (loOf (les48)) 12 cd48 Tryz.f48.results.toList rm48 (ask48.mk' s) (decW rsk48 dec48)=B48 c53 s.1.1 s.1.2.1:=by kernel_rfl
end
noncomputable def an10:Ann:=⟨[],[],[]⟩
noncomputable def cd10:Code:=(Tryz.f10.body).getD .skip
noncomputable def rm10:List RM:=[.d .bo]
noncomputable def les10:List (LoE R10):=[]
noncomputable def fes10 (c12:TQ→Option R12) (c13:TQ→Option R13) (c14:TQ→Option R14) (c15:TQ→Int→Option R15) (c25:TQ→TQ→Option R25) (c30:Int→Int→Option R30) (c45:ByteArray→Option R45) (c48:Int→Int→Option R48) (c49:Int→Option R49):List FE:=[(fe12 c12),(fe13 c13),(fe14 c14),(fe15 c15),(fe25 c25),(fe30 c30),(fe45 c45),(fe48 c48),(fe49 c49)]
section
variable (c12:TQ→Option R12) (c13:TQ→Option R13) (c14:TQ→Option R14) (c15:TQ→Int→Option R15) (c25:TQ→TQ→Option R25) (c30:Int→Int→Option R30) (c45:ByteArray→Option R45) (c48:Int→Int→Option R48) (c49:Int→Option R49)
noncomputable def B10:Option R10:=(c48 6 (-4)).bind fun r1=>((c30 1 2).bind fun r2=>((c30 1 3).bind fun r3=>((c25 (r2.1,r2.2) (r3.1,r3.2)).bind fun r4=>((c30 (-3) 2).bind fun r5=>((c12 (r5.1,r5.2)).bind fun r6=>((c30 (-3) 2).bind fun r7=>((c13 (r7.1,r7.2)).bind fun r8=>((c30 (-3) 2).bind fun r9=>((c15 (r9.1,r9.2) (-2)).bind fun r10=>((c30 9 4).bind fun r11=>((c14 (r11.1,r11.2)).bind fun r12=>((c45 (⟨#[50,47,52]⟩:ByteArray)).bind fun r13=>((c45 (⟨#[45,48]⟩:ByteArray)).bind fun r14=>(if r1.2.2≠0 then(some false)else(if r4.2.2≠0 then(some false)else(if r6.2.2≠0 then(some false)else(if r8.2.2≠0 then(some false)else(if r10.2.2≠0 then(some false)else(if r12.2.2.2≠0 then(some false)else(if r13.2.2≠1 then(some false)else(if r14.2.2≠11 then(some false)else(cnd ((!r12.2.2.1)) (some false) ((c30 (-3) 2).bind fun r15=>(cnd ((((r1.1.1==r15.1.1)&&(r1.1.2.toList==r15.1.2.toList))&&(r1.2.1.toList==r15.2.toList))) ((c30 5 6).bind fun r16=>(cnd ((((r4.1.1==r16.1.1)&&(r4.1.2.toList==r16.1.2.toList))&&(r4.2.1.toList==r16.2.toList))) ((c49 (-2)).bind fun r17=>(cnd (((r6.1==r17.1)&&(r6.2.1.toList==r17.2.toList))) ((c49 (-1)).bind fun r18=>(cnd (((r8.1==r18.1)&&(r8.2.1.toList==r18.2.toList))) ((c30 4 9).bind fun r19=>(cnd ((((r10.1.1==r19.1.1)&&(r10.1.2.toList==r19.1.2.toList))&&(r10.2.1.toList==r19.2.toList))) ((c30 3 2).bind fun r20=>(some (((r12.1.1==r20.1.1)&&(r12.1.2.toList==r20.1.2.toList))&&(r12.2.1.toList==r20.2.toList)))) (some false))) (some false))) (some false))) (some false))) (some false)))))))))))))))))))))))))
theorem e10 (s:ask10.T):evFn E0 (orcOf (fes10 c12 c13 c14 c15 c25 c30 c45 c48 c49)) an10 (loOf (les10)) 119 cd10 Tryz.f10.results.toList rm10 (ask10.mk' s) (decW rsk10 dec10)=B10 c12 c13 c14 c15 c25 c30 c45 c48 c49:=by kernel_rfl
end
noncomputable def an11:Ann:=⟨[],[],[]⟩
noncomputable def cd11:Code:=(Tryz.f11.body).getD .skip
noncomputable def rm11:List RM:=[.d .bo]
noncomputable def les11:List (LoE R11):=[]
noncomputable def fes11:List FE:=[]
noncomputable def B11 (x0:TQ) (x1:TQ) (x2:Int):Option R11:=if(x0.1.2.size:Int)>x2 then(some true)else(if(x0.2.size:Int)>x2 then(some true)else(if(x1.1.2.size:Int)>x2 then(some true)else(some (decide ((x1.2.size:Int)>x2)))))
theorem e11 (s:ask11.T):evFn E0 (orcOf (fes11)) an11 (loOf (les11)) 35 cd11 Tryz.f11.results.toList rm11 (ask11.mk' s) (decW rsk11 dec11)=B11 s.1.1 s.1.2.1 s.1.2.2.1:=by kernel_rfl
noncomputable def an62:Ann:=⟨[],[],[]⟩
noncomputable def cd62:Code:=(Tryz.f62.body).getD .skip
noncomputable def rm62:List RM:=[.d .bo]
noncomputable def les62:List (LoE R62):=[]
noncomputable def fes62:List FE:=[]
noncomputable def B62 (x0:ByteArray):Option R62:=cnd ((x0.toList==(⟨#[]⟩:ByteArray).toList)) (some true) (if(0:Int)≤0 then(if 0<(x0.size:Int)then(some (decide (bt x0 0≠0)))else(none))else(none))
theorem e62 (s:ask62.T):evFn E0 (orcOf (fes62)) an62 (loOf (les62)) 10 cd62 Tryz.f62.results.toList rm62 (ask62.mk' s) (decW rsk62 dec62)=B62 s.1.1:=by kernel_rfl
noncomputable def an61:Ann:=⟨[],[],[]⟩
noncomputable def cd61:Code:=(Tryz.f61.body).getD .skip
noncomputable def rm61:List RM:=[.d .bo]
noncomputable def les61:List (LoE R61):=[]
noncomputable def fes61 (c62:ByteArray→Option R62):List FE:=[(fe62 c62)]
section
variable (c62:ByteArray→Option R62)
noncomputable def B61 (x0:TI):Option R61:=(c62 x0.2).bind fun r1=>(cnd (r1) (cnd ((!x0.1)) (some true) (some (!(x0.2.toList==(⟨#[]⟩:ByteArray).toList)))) (some false))
theorem e61 (s:ask61.T):evFn E0 (orcOf (fes61 c62)) an61 (loOf (les61)) 16 cd61 Tryz.f61.results.toList rm61 (ask61.mk' s) (decW rsk61 dec61)=B61 c62 s.1.1:=by kernel_rfl
end
noncomputable def an117:Ann:=⟨[],[],[]⟩
noncomputable def cd117:Code:=(Tryz.f117.body).getD .skip
noncomputable def rm117:List RM:=[.d (.it .i64)]
noncomputable def les117:List (LoE R117):=[]
noncomputable def fes117:List FE:=[]
noncomputable def B117 (x0:ByteArray):Option R117:=if(x0.size:Int)>1024 then(some 4)else(some 0)
theorem e117 (s:ask117.T):evFn E0 (orcOf (fes117)) an117 (loOf (les117)) 6 cd117 Tryz.f117.results.toList rm117 (ask117.mk' s) (decW rsk117 dec117)=B117 s.1.1:=by kernel_rfl
noncomputable def an65:Ann:=⟨[],[],[]⟩
noncomputable def cd65:Code:=(Tryz.f65.body).getD .skip
noncomputable def rm65:List RM:=[.d (.it .i64)]
noncomputable def les65:List (LoE R65):=[]
noncomputable def fes65 (c117:ByteArray→Option R117):List FE:=[(fe117 c117)]
section
variable (c117:ByteArray→Option R117)
noncomputable def B65 (x0:TI):Option R65:=(c117 x0.2).bind fun r1=>(some r1)
theorem e65 (s:ask65.T):evFn E0 (orcOf (fes65 c117)) an65 (loOf (les65)) 6 cd65 Tryz.f65.results.toList rm65 (ask65.mk' s) (decW rsk65 dec65)=B65 c117 s.1.1:=by kernel_rfl
end
noncomputable def an63:Ann:=⟨[],[],[]⟩
noncomputable def cd63:Code:=(Tryz.f63.body).getD .skip
noncomputable def rm63:List RM:=[.d (.it .i64)]
noncomputable def les63:List (LoE R63):=[]
noncomputable def fes63 (c65:TI→Option R65) (c117:ByteArray→Option R117):List FE:=[(fe65 c65),(fe117 c117)]
section
variable (c65:TI→Option R65) (c117:ByteArray→Option R117)
noncomputable def B63 (x0:TQ):Option R63:=(c65 x0.1).bind fun r1=>(if r1≠0 then(some 4)else((c117 x0.2).bind fun r2=>(some r2)))
theorem e63 (s:ask63.T):evFn E0 (orcOf (fes63 c65 c117)) an63 (loOf (les63)) 10 cd63 Tryz.f63.results.toList rm63 (ask63.mk' s) (decW rsk63 dec63)=B63 c65 c117 s.1.1:=by kernel_rfl
end
noncomputable def an16:Ann:=⟨[],[],[]⟩
noncomputable def cd16:Code:=(Tryz.f16.body).getD .skip
noncomputable def rm16:List RM:=[.d (.it .i64)]
noncomputable def les16:List (LoE R16):=[]
noncomputable def fes16 (c61:TI→Option R61) (c62:ByteArray→Option R62) (c63:TQ→Option R63) (c64:ByteArray→ByteArray→Option R64):List FE:=[(fe61 c61),(fe62 c62),(fe63 c63),(fe64 c64)]
section
variable (c61:TI→Option R61) (c62:ByteArray→Option R62) (c63:TQ→Option R63) (c64:ByteArray→ByteArray→Option R64)
noncomputable def B16 (x0:TQ):Option R16:=(c61 x0.1).bind fun r1=>(cnd ((!r1)) (some 1) ((c62 x0.2).bind fun r2=>(cnd ((!r2)) (some 1) (cnd ((x0.2.toList==(⟨#[]⟩:ByteArray).toList)) (some 1) ((c63 x0).bind fun r3=>(if r3≠0 then(some 4)else((c64 x0.1.2 x0.2).bind fun r4=>(cnd ((!(r4.toList==(⟨#[1]⟩:ByteArray).toList))) (some 1) (some 0)))))))))
theorem e16 (s:ask16.T):evFn E0 (orcOf (fes16 c61 c62 c63 c64)) an16 (loOf (les16)) 28 cd16 Tryz.f16.results.toList rm16 (ask16.mk' s) (decW rsk16 dec16)=B16 c61 c62 c63 c64 s.1.1:=by kernel_rfl
end
noncomputable def an3:Ann:=⟨[],[],[]⟩
noncomputable def cd3:Code:=(Tryz.f3.body).getD .skip
noncomputable def p3:List Pos:=posns an3 [] cd3
noncomputable def rm3:List RM:=[.d .bo]
noncomputable def les3:List (LoE R3):=[]
noncomputable def fes3 (c10:Option R10) (c11:TQ→TQ→Int→Option R11) (c12:TQ→Option R12) (c13:TQ→Option R13) (c14:TQ→Option R14) (c15:TQ→Int→Option R15) (c16:TQ→Option R16) (c17:TI→Int→Int→TI→Option R17) (c18:TQ→Int→Int→TQ→Option R18) (c19:TQ→Option R19) (c20:TQ→Option R20) (c21:TQ→Option R21) (c22:TQ→Option R22) (c23:TQ→Int→Int→Option R23):List FE:=[(fe10 c10),(fe11 c11),(fe12 c12),(fe13 c13),(fe14 c14),(fe15 c15),(fe16 c16),(fe17 c17),(fe18 c18),(fe19 c19),(fe20 c20),(fe21 c21),(fe22 c22),(fe23 c23)]
section
variable (c10:Option R10) (c11:TQ→TQ→Int→Option R11) (c12:TQ→Option R12) (c13:TQ→Option R13) (c14:TQ→Option R14) (c15:TQ→Int→Option R15) (c16:TQ→Option R16) (c17:TI→Int→Int→TI→Option R17) (c18:TQ→Int→Int→TQ→Option R18) (c19:TQ→Option R19) (c20:TQ→Option R20) (c21:TQ→Option R21) (c22:TQ→Option R22) (c23:TQ→Int→Int→Option R23)
noncomputable def B3 (x0:TQ) (x1:Int):Option R3:=(c10).bind fun r1=>(cnd ((!r1)) ((c10).bind fun r2=>(some r2)) ((c11 x0 x0 40).bind fun r3=>(cnd (r3) ((c10).bind fun r4=>(some r4)) ((c12 x0).bind fun r5=>((c13 x0).bind fun r6=>((c14 x0).bind fun r7=>((c15 x0 x1).bind fun r8=>((c16 x0).bind fun r9=>(if r9≠0 then((c17 (r5.1,r5.2.1) r5.2.2 r9 x0.1).bind fun r10=>(cnd (r10) ((c17 (r6.1,r6.2.1) r6.2.2 r9 x0.1).bind fun r11=>(cnd (r11) ((c18 (r7.1,r7.2.1) r7.2.2.2 r9 x0).bind fun r12=>(cnd (r12) (cnd ((!r7.2.2.1)) ((c18 (r8.1,r8.2.1) r8.2.2 r9 x0).bind fun r13=>(some r13)) (some false)) (some false))) (some false))) (some false)))else((c19 x0).bind fun r14=>(cnd ((!r14.2.2)) ((c20 x0).bind fun r15=>((c17 (r5.1,r5.2.1) r5.2.2 0 (r15.1,r15.2)).bind fun r16=>(cnd ((!r16)) (some false) ((c21 x0).bind fun r17=>((c17 (r6.1,r6.2.1) r6.2.2 0 (r17.1,r17.2)).bind fun r18=>(cnd ((!r18)) (some false) (cnd ((!(((r7.1.1==false)&&(r7.1.2.toList==(⟨#[]⟩:ByteArray).toList))&&(r7.2.1.toList==(⟨#[]⟩:ByteArray).toList)))) (some false) (cnd ((!(r7.2.2.1==r14.2.2))) (some false) (if r7.2.2.2≠0 then(some false)else(if x1<(-4096)then((c18 (r8.1,r8.2.1) r8.2.2 3 x0).bind fun r19=>(some r19))else(if x1>4096 then((c18 (r8.1,r8.2.1) r8.2.2 3 x0).bind fun r20=>(some r20))else(if x1<0 then(cnd ((x0.1.2.toList==(⟨#[]⟩:ByteArray).toList)) ((c18 (r8.1,r8.2.1) r8.2.2 6 x0).bind fun r21=>(some r21)) ((c22 x0).bind fun r22=>((c23 (r22.1,r22.2) (wrap64 (0-x1)) 1024).bind fun r23=>(cnd ((!r23.2.2)) ((c18 (r8.1,r8.2.1) r8.2.2 4 x0).bind fun r24=>(some r24)) ((c18 (r8.1,r8.2.1) r8.2.2 0 (r23.1,r23.2.1)).bind fun r25=>(some r25))))))else((c23 x0 x1 1024).bind fun r26=>(cnd ((!r26.2.2)) ((c18 (r8.1,r8.2.1) r8.2.2 4 x0).bind fun r27=>(some r27)) ((c18 (r8.1,r8.2.1) r8.2.2 0 (r26.1,r26.2.1)).bind fun r28=>(some r28)))))))))))))))) ((c20 x0).bind fun r29=>((c17 (r5.1,r5.2.1) r5.2.2 0 (r29.1,r29.2)).bind fun r30=>(cnd ((!r30)) (some false) ((c21 x0).bind fun r31=>((c17 (r6.1,r6.2.1) r6.2.2 0 (r31.1,r31.2)).bind fun r32=>(cnd ((!r32)) (some false) (cnd ((!(((r7.1.1==r14.1.1)&&(r7.1.2.toList==r14.1.2.toList))&&(r7.2.1.toList==r14.2.1.toList)))) (some false) (cnd ((!(r7.2.2.1==r14.2.2))) (some false) (if r7.2.2.2≠0 then(some false)else(if x1<(-4096)then((c18 (r8.1,r8.2.1) r8.2.2 3 x0).bind fun r33=>(some r33))else(if x1>4096 then((c18 (r8.1,r8.2.1) r8.2.2 3 x0).bind fun r34=>(some r34))else(if x1<0 then(cnd ((x0.1.2.toList==(⟨#[]⟩:ByteArray).toList)) ((c18 (r8.1,r8.2.1) r8.2.2 6 x0).bind fun r35=>(some r35)) ((c22 x0).bind fun r36=>((c23 (r36.1,r36.2) (wrap64 (0-x1)) 1024).bind fun r37=>(cnd ((!r37.2.2)) ((c18 (r8.1,r8.2.1) r8.2.2 4 x0).bind fun r38=>(some r38)) ((c18 (r8.1,r8.2.1) r8.2.2 0 (r37.1,r37.2.1)).bind fun r39=>(some r39))))))else((c23 x0 x1 1024).bind fun r40=>(cnd ((!r40.2.2)) ((c18 (r8.1,r8.2.1) r8.2.2 4 x0).bind fun r41=>(some r41)) ((c18 (r8.1,r8.2.1) r8.2.2 0 (r40.1,r40.2.1)).bind fun r42=>(some r42)))))))))))))))))))))))))))
theorem e3 (s:ask3.T):evFn E0 (orcOf (fes3 c10 c11 c12 c13 c14 c15 c16 c17 c18 c19 c20 c21 c22 c23)) an3 (loOf (les3)) 163 cd3 Tryz.f3.results.toList rm3 (ask3.mk' s) (decW rsk3 dec3)=B3 c10 c11 c12 c13 c14 c15 c16 c17 c18 c19 c20 c21 c22 c23 s.1.1 s.1.2.1:=by kernel_rfl
end
noncomputable def an4:Ann:=⟨[],[],[]⟩
noncomputable def cd4:Code:=(Tryz.f4.body).getD .skip
noncomputable def p4:List Pos:=posns an4 [] cd4
noncomputable def rm4:List RM:=[.d .bo]
noncomputable def les4:List (LoE R4):=[]
noncomputable def fes4 (c10:Option R10) (c24:TQ→TQ→TQ→Option R24) (c25:TQ→TQ→Option R25) (c26:TQ→TQ→Option R26) (c27:TQ→TQ→Option R27) (c28:TQ→TQ→Option R28) (c29:TQ→Option R29) (c30:Int→Int→Option R30):List FE:=[(fe10 c10),(fe24 c24),(fe25 c25),(fe26 c26),(fe27 c27),(fe28 c28),(fe29 c29),(fe30 c30)]
section
variable (c10:Option R10) (c24:TQ→TQ→TQ→Option R24) (c25:TQ→TQ→Option R25) (c26:TQ→TQ→Option R26) (c27:TQ→TQ→Option R27) (c28:TQ→TQ→Option R28) (c29:TQ→Option R29) (c30:Int→Int→Option R30)
noncomputable def B4 (x0:TQ) (x1:TQ) (x2:TQ):Option R4:=(c10).bind fun r1=>(cnd ((!r1)) ((c10).bind fun r2=>(some r2)) ((c24 x0 x1 x2).bind fun r3=>(cnd ((!r3)) ((c10).bind fun r4=>(some r4)) ((c25 x0 x1).bind fun r5=>((c25 x1 x0).bind fun r6=>((c26 (r5.1,r5.2.1) x2).bind fun r7=>((c26 x0 x2).bind fun r8=>((c26 x2 x1).bind fun r9=>((c25 (r8.1,r8.2.1) (r9.1,r9.2.1)).bind fun r10=>((c27 (r5.1,r5.2.1) x1).bind fun r11=>(if r5.2.2≠0 then(some false)else(if r6.2.2≠0 then(some false)else(if r7.2.2≠0 then(some false)else(if r8.2.2≠0 then(some false)else(if r9.2.2≠0 then(some false)else(if r10.2.2≠0 then(some false)else(if r11.2.2≠0 then(some false)else(cnd ((!(((r5.1.1==r6.1.1)&&(r5.1.2.toList==r6.1.2.toList))&&(r5.2.1.toList==r6.2.1.toList)))) (some false) (cnd ((!(((r7.1.1==r10.1.1)&&(r7.1.2.toList==r10.1.2.toList))&&(r7.2.1.toList==r10.2.1.toList)))) (some false) (cnd ((!(((r11.1.1==x0.1.1)&&(r11.1.2.toList==x0.1.2.toList))&&(r11.2.1.toList==x0.2.toList)))) (some false) ((c26 (r8.1,r8.2.1) x1).bind fun r12=>((c26 x0 (r9.1,r9.2.1)).bind fun r13=>((c25 (r5.1,r5.2.1) x2).bind fun r14=>((c25 x1 x2).bind fun r15=>((c25 x0 (r15.1,r15.2.1)).bind fun r16=>(if r12.2.2≠0 then(some false)else(if r13.2.2≠0 then(some false)else(if r14.2.2≠0 then(some false)else(if r15.2.2≠0 then(some false)else(if r16.2.2≠0 then(some false)else(cnd ((!(((r12.1.1==r13.1.1)&&(r12.1.2.toList==r13.1.2.toList))&&(r12.2.1.toList==r13.2.1.toList)))) (some false) (cnd ((!(((r14.1.1==r16.1.1)&&(r14.1.2.toList==r16.1.2.toList))&&(r14.2.1.toList==r16.2.1.toList)))) (some false) (cnd ((x2.1.2.toList==(⟨#[]⟩:ByteArray).toList)) (some true) ((c28 (r8.1,r8.2.1) x2).bind fun r17=>((c29 x2).bind fun r18=>((c26 x2 (r18.1,r18.2.1)).bind fun r19=>(if r17.2.2=0 then(if r18.2.2=0 then(if r19.2.2=0 then(cnd ((((r17.1.1==x0.1.1)&&(r17.1.2.toList==x0.1.2.toList))&&(r17.2.1.toList==x0.2.toList))) ((c30 1 1).bind fun r20=>(some (((r19.1.1==r20.1.1)&&(r19.1.2.toList==r20.1.2.toList))&&(r19.2.1.toList==r20.2.toList)))) (some false))else(some false))else(some false))else(some false))))))))))))))))))))))))))))))))))))))
theorem e4 (s:ask4.T):evFn E0 (orcOf (fes4 c10 c24 c25 c26 c27 c28 c29 c30)) an4 (loOf (les4)) 221 cd4 Tryz.f4.results.toList rm4 (ask4.mk' s) (decW rsk4 dec4)=B4 c10 c24 c25 c26 c27 c28 c29 c30 s.1.1 s.1.2.1 s.1.2.2.1:=by kernel_rfl
end
section
variable (c55Neg:(List TQ)→Option R55Neg)
noncomputable def B32 (x0:TQ):Option R32:=(c55Neg ([x0]:List TQ)).bind fun r1=>(some (r1.1,r1.2.1,r1.2.2))
end
noncomputable def an5:Ann:=⟨[],[],[]⟩
noncomputable def cd5:Code:=(Tryz.f5.body).getD .skip
noncomputable def p5:List Pos:=posns an5 [] cd5
noncomputable def rm5:List RM:=[.d .bo]
noncomputable def les5:List (LoE R5):=[]
noncomputable def fes5 (c10:Option R10) (c14:TQ→Option R14) (c15:TQ→Int→Option R15) (c24:TQ→TQ→TQ→Option R24) (c26:TQ→TQ→Option R26) (c31:TQ→Option R31) (c32:TQ→Option R32):List FE:=[(fe10 c10),(fe14 c14),(fe15 c15),(fe24 c24),(fe26 c26),(fe31 c31),(fe32 c32)]
section
variable (c10:Option R10) (c14:TQ→Option R14) (c15:TQ→Int→Option R15) (c24:TQ→TQ→TQ→Option R24) (c26:TQ→TQ→Option R26) (c31:TQ→Option R31) (c32:TQ→Option R32)
noncomputable def B5 (x0:TQ) (x1:Int) (x2:Int):Option R5:=(c10).bind fun r1=>(cnd ((!r1)) ((c10).bind fun r2=>(some r2)) ((c24 x0 x0 x0).bind fun r3=>(cnd ((!r3)) ((c10).bind fun r4=>(some r4)) (cnd ((x0.1.2.toList==(⟨#[]⟩:ByteArray).toList)) ((c10).bind fun r5=>(some r5)) (if(10:Int)=0 then(none)else(if(10:Int)=0 then(none)else((c15 x0 (Int.tmod (wrap64 (x1)) 10)).bind fun r6=>((c15 x0 (Int.tmod (wrap64 (x2)) 10)).bind fun r7=>((c15 x0 (wrap64 ((Int.tmod (wrap64 (x1)) 10)+(Int.tmod (wrap64 (x2)) 10)))).bind fun r8=>((c26 (r6.1,r6.2.1) (r7.1,r7.2.1)).bind fun r9=>(if r6.2.2≠0 then(some false)else(if r7.2.2≠0 then(some false)else(if r8.2.2≠0 then(some false)else(if r9.2.2≠0 then(some false)else(cnd ((!(((r8.1.1==r9.1.1)&&(r8.1.2.toList==r9.1.2.toList))&&(r8.2.1.toList==r9.2.1.toList)))) (some false) ((c26 x0 x0).bind fun r10=>((c14 (r10.1,r10.2.1)).bind fun r11=>((c31 (r11.1,r11.2.1)).bind fun r12=>((c32 x0).bind fun r13=>(if r10.2.2=0 then(if r11.2.2.2=0 then(if r12.2=0 then(if r13.2.2=0 then(cnd (r11.2.2.1) (if r12.1=1 then(cnd ((((r11.1.1==x0.1.1)&&(r11.1.2.toList==x0.1.2.toList))&&(r11.2.1.toList==x0.2.toList))) (some true) (some (((r11.1.1==r13.1.1)&&(r11.1.2.toList==r13.1.2.toList))&&(r11.2.1.toList==r13.2.1.toList))))else(some false)) (some false))else(some false))else(some false))else(some false))else(some false)))))))))))))))))))))
theorem e5 (s:ask5.T):evFn E0 (orcOf (fes5 c10 c14 c15 c24 c26 c31 c32)) an5 (loOf (les5)) 142 cd5 Tryz.f5.results.toList rm5 (ask5.mk' s) (decW rsk5 dec5)=B5 c10 c14 c15 c24 c26 c31 c32 s.1.1 s.1.2.1 s.1.2.2.1:=by kernel_rfl
end
noncomputable def an6:Ann:=⟨[],[],[]⟩
noncomputable def cd6:Code:=(Tryz.f6.body).getD .skip
noncomputable def p6:List Pos:=posns an6 [] cd6
noncomputable def rm6:List RM:=[.d .bo]
noncomputable def les6:List (LoE R6):=[]
noncomputable def fes6 (c10:Option R10) (c11:TQ→TQ→Int→Option R11) (c16:TQ→Option R16) (c18:TQ→Int→Int→TQ→Option R18) (c25:TQ→TQ→Option R25) (c27:TQ→TQ→Option R27) (c33:TQ→TQ→Option R33) (c34:TQ→Option R34) (c35:TQ→TQ→Option R35) (c36:TQ→TQ→Option R36) (c37:TQ→TQ→Option R37) (c38:TQ→TQ→Option R38):List FE:=[(fe10 c10),(fe11 c11),(fe16 c16),(fe18 c18),(fe25 c25),(fe27 c27),(fe33 c33),(fe34 c34),(fe35 c35),(fe36 c36),(fe37 c37),(fe38 c38)]
section
variable (c10:Option R10) (c11:TQ→TQ→Int→Option R11) (c16:TQ→Option R16) (c18:TQ→Int→Int→TQ→Option R18) (c25:TQ→TQ→Option R25) (c27:TQ→TQ→Option R27) (c33:TQ→TQ→Option R33) (c34:TQ→Option R34) (c35:TQ→TQ→Option R35) (c36:TQ→TQ→Option R36) (c37:TQ→TQ→Option R37) (c38:TQ→TQ→Option R38)
noncomputable def B6 (x0:TQ) (x1:TQ):Option R6:=(c10).bind fun r1=>(cnd ((!r1)) ((c10).bind fun r2=>(some r2)) ((c11 x0 x1 1100).bind fun r3=>(cnd (r3) ((c10).bind fun r4=>(some r4)) ((c11 x0 x1 60).bind fun r5=>(cnd (r5) (if(x1.1.2.size:Int)<3 then(if¬((x1.2.size:Int)<3)then((c10).bind fun r6=>(some r6))else((c33 x0 x1).bind fun r7=>((c25 x0 x1).bind fun r8=>((c27 x0 x1).bind fun r9=>((c34 x0).bind fun r10=>((c16 x0).bind fun r11=>(if r10≠r11 then(some false)else((c35 x0 x1).bind fun r12=>(if r12≠0 then(if r7.1=0 then(if r7.2=r12 then((c18 (r8.1,r8.2.1) r8.2.2 r12 x0).bind fun r13=>(cnd (r13) ((c18 (r9.1,r9.2.1) r9.2.2 r12 x0).bind fun r14=>(some r14)) (some false)))else(some false))else(some false))else((c36 x0 x1).bind fun r15=>(if r7.1=r15 then(if r7.2=0 then((c37 x0 x1).bind fun r16=>((c18 (r8.1,r8.2.1) r8.2.2 0 (r16.1,r16.2)).bind fun r17=>(cnd (r17) ((c38 x0 x1).bind fun r18=>((c18 (r9.1,r9.2.1) r9.2.2 0 (r18.1,r18.2)).bind fun r19=>(some r19))) (some false))))else(some false))else(some false))))))))))))else((c10).bind fun r20=>(some r20))) ((c33 x0 x1).bind fun r21=>((c25 x0 x1).bind fun r22=>((c27 x0 x1).bind fun r23=>((c34 x0).bind fun r24=>((c16 x0).bind fun r25=>(if r24≠r25 then(some false)else((c35 x0 x1).bind fun r26=>(if r26≠0 then(if r21.1=0 then(if r21.2=r26 then((c18 (r22.1,r22.2.1) r22.2.2 r26 x0).bind fun r27=>(cnd (r27) ((c18 (r23.1,r23.2.1) r23.2.2 r26 x0).bind fun r28=>(some r28)) (some false)))else(some false))else(some false))else((c36 x0 x1).bind fun r29=>(if r21.1=r29 then(if r21.2=0 then((c37 x0 x1).bind fun r30=>((c18 (r22.1,r22.2.1) r22.2.2 0 (r30.1,r30.2)).bind fun r31=>(cnd (r31) ((c38 x0 x1).bind fun r32=>((c18 (r23.1,r23.2.1) r23.2.2 0 (r32.1,r32.2)).bind fun r33=>(some r33))) (some false))))else(some false))else(some false))))))))))))))))
theorem e6 (s:ask6.T):evFn E0 (orcOf (fes6 c10 c11 c16 c18 c25 c27 c33 c34 c35 c36 c37 c38)) an6 (loOf (les6)) 113 cd6 Tryz.f6.results.toList rm6 (ask6.mk' s) (decW rsk6 dec6)=B6 c10 c11 c16 c18 c25 c27 c33 c34 c35 c36 c37 c38 s.1.1 s.1.2.1:=by kernel_rfl
end
noncomputable def an7:Ann:=⟨[],[],[]⟩
noncomputable def cd7:Code:=(Tryz.f7.body).getD .skip
noncomputable def p7:List Pos:=posns an7 [] cd7
noncomputable def rm7:List RM:=[.d .bo]
noncomputable def les7:List (LoE R7):=[]
noncomputable def fes7 (c10:Option R10) (c11:TQ→TQ→Int→Option R11) (c16:TQ→Option R16) (c18:TQ→Int→Int→TQ→Option R18) (c22:TQ→Option R22) (c26:TQ→TQ→Option R26) (c28:TQ→TQ→Option R28) (c29:TQ→Option R29) (c31:TQ→Option R31) (c32:TQ→Option R32) (c35:TQ→TQ→Option R35) (c39:TQ→Option R39) (c40:TQ→Option R40) (c41:TQ→TQ→Option R41) (c42:TQ→TQ→Option R42):List FE:=[(fe10 c10),(fe11 c11),(fe16 c16),(fe18 c18),(fe22 c22),(fe26 c26),(fe28 c28),(fe29 c29),(fe31 c31),(fe32 c32),(fe35 c35),(fe39 c39),(fe40 c40),(fe41 c41),(fe42 c42)]
section
variable (c10:Option R10) (c11:TQ→TQ→Int→Option R11) (c16:TQ→Option R16) (c18:TQ→Int→Int→TQ→Option R18) (c22:TQ→Option R22) (c26:TQ→TQ→Option R26) (c28:TQ→TQ→Option R28) (c29:TQ→Option R29) (c31:TQ→Option R31) (c32:TQ→Option R32) (c35:TQ→TQ→Option R35) (c39:TQ→Option R39) (c40:TQ→Option R40) (c41:TQ→TQ→Option R41) (c42:TQ→TQ→Option R42)
noncomputable def B7 (x0:TQ) (x1:TQ):Option R7:=(c10).bind fun r1=>(cnd ((!r1)) ((c10).bind fun r2=>(some r2)) ((c11 x0 x1 60).bind fun r3=>(cnd (r3) ((c10).bind fun r4=>(some r4)) ((c26 x0 x1).bind fun r5=>((c28 x0 x1).bind fun r6=>((c29 x1).bind fun r7=>((c32 x1).bind fun r8=>((c31 x1).bind fun r9=>((c35 x0 x1).bind fun r10=>((c16 x1).bind fun r11=>(if r11≠0 then((c18 (r7.1,r7.2.1) r7.2.2 r11 x0).bind fun r12=>(cnd ((!r12)) (some false) ((c18 (r8.1,r8.2.1) r8.2.2 r11 x0).bind fun r13=>(cnd ((!r13)) (some false) (if r9.1≠0 then(some false)else(if r9.2≠r11 then(some false)else((c18 (r5.1,r5.2.1) r5.2.2 r10 x0).bind fun r14=>(cnd (r14) ((c18 (r6.1,r6.2.1) r6.2.2 r10 x0).bind fun r15=>(some r15)) (some false)))))))))else((c39 x1).bind fun r16=>((c18 (r8.1,r8.2.1) r8.2.2 0 (r16.1,r16.2)).bind fun r17=>(cnd ((!r17)) (some false) ((c40 x1).bind fun r18=>(if r9.1≠r18 then(some false)else(if r9.2≠0 then(some false)else(cnd ((x1.1.2.toList==(⟨#[]⟩:ByteArray).toList)) (if r10=0 then((c22 x1).bind fun r19=>((c18 (r7.1,r7.2.1) r7.2.2 6 (r19.1,r19.2)).bind fun r20=>(cnd ((!r20)) (some false) (if r10≠0 then((c18 (r5.1,r5.2.1) r5.2.2 r10 x0).bind fun r21=>(cnd (r21) ((c18 (r6.1,r6.2.1) r6.2.2 r10 x0).bind fun r22=>(some r22)) (some false)))else((c41 x0 x1).bind fun r23=>((c18 (r5.1,r5.2.1) r5.2.2 0 (r23.1,r23.2)).bind fun r24=>(cnd (r24) ((c42 x0 x1).bind fun r25=>((c18 (r6.1,r6.2.1) r6.2.2 6 (r25.1,r25.2)).bind fun r26=>(some r26))) (some false))))))))else((c22 x1).bind fun r27=>((c18 (r7.1,r7.2.1) r7.2.2 6 (r27.1,r27.2)).bind fun r28=>(cnd ((!r28)) (some false) (if r10≠0 then((c18 (r5.1,r5.2.1) r5.2.2 r10 x0).bind fun r29=>(cnd (r29) ((c18 (r6.1,r6.2.1) r6.2.2 r10 x0).bind fun r30=>(some r30)) (some false)))else((c41 x0 x1).bind fun r31=>((c18 (r5.1,r5.2.1) r5.2.2 0 (r31.1,r31.2)).bind fun r32=>(cnd (r32) ((c42 x0 x1).bind fun r33=>((c18 (r6.1,r6.2.1) r6.2.2 r10 (r33.1,r33.2)).bind fun r34=>(some r34))) (some false))))))))) ((c22 x1).bind fun r35=>((c18 (r7.1,r7.2.1) r7.2.2 r11 (r35.1,r35.2)).bind fun r36=>(cnd ((!r36)) (some false) (if r10≠0 then((c18 (r5.1,r5.2.1) r5.2.2 r10 x0).bind fun r37=>(cnd (r37) ((c18 (r6.1,r6.2.1) r6.2.2 r10 x0).bind fun r38=>(some r38)) (some false)))else((c41 x0 x1).bind fun r39=>((c18 (r5.1,r5.2.1) r5.2.2 0 (r39.1,r39.2)).bind fun r40=>(cnd (r40) ((c42 x0 x1).bind fun r41=>((c18 (r6.1,r6.2.1) r6.2.2 r10 (r41.1,r41.2)).bind fun r42=>(some r42))) (some false))))))))))))))))))))))))))
theorem e7 (s:ask7.T):evFn E0 (orcOf (fes7 c10 c11 c16 c18 c22 c26 c28 c29 c31 c32 c35 c39 c40 c41 c42)) an7 (loOf (les7)) 155 cd7 Tryz.f7.results.toList rm7 (ask7.mk' s) (decW rsk7 dec7)=B7 c10 c11 c16 c18 c22 c26 c28 c29 c31 c32 c35 c39 c40 c41 c42 s.1.1 s.1.2.1:=by kernel_rfl
end
noncomputable def an8:Ann:=⟨[],[],[]⟩
noncomputable def cd8:Code:=(Tryz.f8.body).getD .skip
noncomputable def p8:List Pos:=posns an8 [] cd8
noncomputable def rm8:List RM:=[.d .bo]
noncomputable def les8:List (LoE R8):=[]
noncomputable def fes8 (c10:Option R10) (c12:TQ→Option R12) (c13:TQ→Option R13) (c24:TQ→TQ→TQ→Option R24) (c25:TQ→TQ→Option R25) (c26:TQ→TQ→Option R26) (c27:TQ→TQ→Option R27) (c30:Int→Int→Option R30) (c31:TQ→Option R31) (c33:TQ→TQ→Option R33) (c43:TI→Option R43):List FE:=[(fe10 c10),(fe12 c12),(fe13 c13),(fe24 c24),(fe25 c25),(fe26 c26),(fe27 c27),(fe30 c30),(fe31 c31),(fe33 c33),(fe43 c43)]
section
variable (c10:Option R10) (c12:TQ→Option R12) (c13:TQ→Option R13) (c24:TQ→TQ→TQ→Option R24) (c25:TQ→TQ→Option R25) (c26:TQ→TQ→Option R26) (c27:TQ→TQ→Option R27) (c30:Int→Int→Option R30) (c31:TQ→Option R31) (c33:TQ→TQ→Option R33) (c43:TI→Option R43)
noncomputable def B8 (x0:TQ) (x1:TQ) (x2:TQ):Option R8:=(c10).bind fun r1=>(cnd ((!r1)) ((c10).bind fun r2=>(some r2)) ((c24 x0 x1 x2).bind fun r3=>(cnd ((!r3)) ((c10).bind fun r4=>(some r4)) ((c33 x0 x1).bind fun r5=>((c27 x0 x1).bind fun r6=>((c31 (r6.1,r6.2.1)).bind fun r7=>((c25 x0 x2).bind fun r8=>((c25 x1 x2).bind fun r9=>((c33 (r8.1,r8.2.1) (r9.1,r9.2.1)).bind fun r10=>(if r5.2≠0 then(some false)else(if r6.2.2≠0 then(some false)else(if r7.2≠0 then(some false)else(if r8.2.2≠0 then(some false)else(if r9.2.2≠0 then(some false)else(if r10.2≠0 then(some false)else(if r5.1≠r7.1 then(some false)else(if r10.1≠r5.1 then(some false)else((c26 x0 x2).bind fun r11=>((c26 x1 x2).bind fun r12=>((c33 (r11.1,r11.2.1) (r12.1,r12.2.1)).bind fun r13=>((c31 x2).bind fun r14=>(if r11.2.2≠0 then(some false)else(if r12.2.2≠0 then(some false)else(if r13.2≠0 then(some false)else(if r14.2≠0 then(some false)else(if r13.1≠wrap64 (r5.1*r14.1)then(some false)else((c12 x0).bind fun r15=>((c43 (r15.1,r15.2.1)).bind fun r16=>((c27 x0 (r16.1,r16.2.1)).bind fun r17=>((c31 (r17.1,r17.2.1)).bind fun r18=>((c30 1 1).bind fun r19=>((c33 (r17.1,r17.2.1) (r19.1,r19.2)).bind fun r20=>(if r15.2.2≠0 then(some false)else(if r16.2.2≠0 then(some false)else(if r17.2.2≠0 then(some false)else(if r18.2≠0 then(some false)else(if r20.2≠0 then(some false)else(if r18.1<0 then(some false)else(if r20.1≥0 then(some false)else((c13 x0).bind fun r21=>((c43 (r21.1,r21.2.1)).bind fun r22=>((c27 (r22.1,r22.2.1) x0).bind fun r23=>((c30 1 2).bind fun r24=>((c33 (r23.1,r23.2.1) (r24.1,r24.2)).bind fun r25=>((c30 (-1) 2).bind fun r26=>((c33 (r23.1,r23.2.1) (r26.1,r26.2)).bind fun r27=>(if r21.2.2=0 then(if r22.2.2=0 then(if r23.2.2=0 then(if r25.2=0 then(if r27.2=0 then(if r25.1≤0 then(some (decide (r27.1>0)))else(some false))else(some false))else(some false))else(some false))else(some false))else(some false))))))))))))))))))))))))))))))))))))))))))))))))
theorem e8 (s:ask8.T):evFn E0 (orcOf (fes8 c10 c12 c13 c24 c25 c26 c27 c30 c31 c33 c43)) an8 (loOf (les8)) 261 cd8 Tryz.f8.results.toList rm8 (ask8.mk' s) (decW rsk8 dec8)=B8 c10 c12 c13 c24 c25 c26 c27 c30 c31 c33 c43 s.1.1 s.1.2.1 s.1.2.2.1:=by kernel_rfl
end
noncomputable def an133:Ann:=⟨[(2,[(6, .any),(7, .any),(8, .any)])],[],[]⟩
noncomputable def cd133:Code:=(Tryz.f133.body).getD .skip
noncomputable def p133:List Pos:=posns an133 [] cd133
noncomputable def rm133:List RM:=[.d (.it .i64)]
noncomputable def rk133 (s0:SbT ask133.bl):KX R133:=retK E0 Tryz.f133.results.toList rm133 (mkB ask133.bl s0) (decW rsk133 dec133)
noncomputable def k133l0:Sk:=⟨[(6, .d (.li .st)),(7, .d (.it .i64)),(8, .d (.it .i64))],[]⟩
noncomputable def les133 (gl0:(List ByteArray)→Int→Int→Option R133):List (LoE R133):=[⟨2,k133l0,fun s=>gl0 s.1.1 s.1.2.1 s.1.2.2.1⟩]
noncomputable def fes133 (c84:ByteArray→Option R84):List FE:=[(fe84 c84)]
section
variable (gl0:(List ByteArray)→Int→Int→Option R133) (c84:ByteArray→Option R84)
noncomputable def B133l0 (x6:(List ByteArray)) (x7:Int) (x8:Int):Option R133:=if x8<x7 then(if 0≤x8 then(if x8<(x6.length:Int)then((c84 (rdOf (⟨#[]⟩:ByteArray) x6 x8)).bind fun r1=>(if r1≠0 then(some r1)else(gl0 x6 x7 (wrap64 (x8+1)))))else(none))else(none))else(some 0)
theorem e133l0 (s0:SbT ask133.bl) (s:k133l0.T):evPos E0 (orcOf (fes133 c84)) 18 an133 (loOf (les133 gl0)) (rk133 s0) (p133.getD 0 ⟨0,[], .skip⟩) (k133l0.mk' s)=B133l0 gl0 c84 s.1.1 s.1.2.1 s.1.2.2.1:=by kernel_rfl
noncomputable def B133 (x0:(List ByteArray)):Option R133:=gl0 x0 (x0.length:Int) 0
theorem e133 (s:ask133.T):evFn E0 (orcOf (fes133 c84)) an133 (loOf (les133 gl0)) 18 cd133 Tryz.f133.results.toList rm133 (ask133.mk' s) (decW rsk133 dec133)=B133 gl0 s.1.1:=by kernel_rfl
end
noncomputable def an136:Ann:=⟨[],[],[]⟩
noncomputable def cd136:Code:=(Tryz.f136.body).getD .skip
noncomputable def rm136:List RM:=[.d (.it .u64), .d .bo]
noncomputable def les136:List (LoE R136):=[]
noncomputable def fes136 (c129:ByteArray→Option R129):List FE:=[(fe129 c129)]
section
variable (c129:ByteArray→Option R129)
noncomputable def B136 (x0:ByteArray):Option R136:=(c129 x0).bind fun r1=>(if(r1.length:Int)>1 then(some (0,false))else(if(r1.length:Int)=0 then(some (0,true))else(if(0:Int)≤0 then(if 0<(r1.length:Int)then(some (rd r1 0,true))else(none))else(none))))
theorem e136 (s:ask136.T):evFn E0 (orcOf (fes136 c129)) an136 (loOf (les136)) 16 cd136 Tryz.f136.results.toList rm136 (ask136.mk' s) (decW rsk136 dec136)=B136 c129 s.1.1:=by kernel_rfl
end
noncomputable def an95:Ann:=⟨[(7,[(0, .any),(5, .own (.it .u64))]),(14,[(5, .any),(10, .own (.it .u8)),(43, .any),(44, .any)]),(18,[(5, .any),(10, .own (.it .u8)),(11, .any),(12, .any),(13, .any),(43, .any),(44, .any)]),(24,[(10, .any),(14, .any),(15, .any)])],[],[]⟩
noncomputable def cd95:Code:=(Tryz.f95.body).getD .skip
noncomputable def p95:List Pos:=posns an95 [] cd95
noncomputable def rm95:List RM:=[.d .st, .d (.it .i64)]
noncomputable def rk95 (s0:SbT ask95.bl):KX R95:=retK E0 Tryz.f95.results.toList rm95 (mkB ask95.bl s0) (decW rsk95 dec95)
noncomputable def k95l0:Sk:=⟨[(0, .d .st),(5, .f (.a (.ref 5)))],[(5, .own (.it .u64) true)]⟩
noncomputable def k95l1:Sk:=⟨[(5, .f (.a (.ref 5))),(10, .f (.a (.ref 10))),(43, .d (.it .i64)),(44, .d (.it .i64))],[(5, .own (.it .u64) true),(10, .own (.it .u8) true)]⟩
noncomputable def k95l2:Sk:=⟨[(5, .f (.a (.ref 5))),(10, .f (.a (.ref 10))),(11, .d (.it .i64)),(12, .d (.it .u64)),(13, .d (.it .i64)),(43, .d (.it .i64)),(44, .d (.it .i64))],[(5, .own (.it .u64) true),(10, .own (.it .u8) true)]⟩
noncomputable def k95l3:Sk:=⟨[(10, .f (.a (.ref 10))),(14, .d (.it .i64)),(15, .d (.it .i64))],[(10, .own (.it .u8) true)]⟩
noncomputable def les95 (gl0:ByteArray→(List Int)→Option R95) (gl1:Int→Int→(List Int)→(List Int)→Option R95) (gl2:Int→Int→Int→Int→Int→(List Int)→(List Int)→Option R95) (gl3:Int→Int→(List Int)→Option R95):List (LoE R95):=[⟨7,k95l0,fun s=>gl0 s.1.1 s.2.1⟩,⟨14,k95l1,fun s=>gl1 s.1.1 s.1.2.1 s.2.1 s.2.2.1⟩,⟨18,k95l2,fun s=>gl2 s.1.1 s.1.2.1 s.1.2.2.1 s.1.2.2.2.1 s.1.2.2.2.2.1 s.2.1 s.2.2.1⟩,⟨24,k95l3,fun s=>gl3 s.1.1 s.1.2.1 s.2.1⟩]
noncomputable def fes95 (c133:(List ByteArray)→Option R133) (c134:ByteArray→ByteArray→Option R134) (c135:Int→Option R135) (c136:ByteArray→Option R136):List FE:=[(fe133 c133),(fe134 c134),(fe135 c135),(fe136 c136)]
section
variable (gl0:ByteArray→(List Int)→Option R95) (gl1:Int→Int→(List Int)→(List Int)→Option R95) (gl2:Int→Int→Int→Int→Int→(List Int)→(List Int)→Option R95) (gl3:Int→Int→(List Int)→Option R95) (c133:(List ByteArray)→Option R133) (c134:ByteArray→ByteArray→Option R134) (c135:Int→Option R135) (c136:ByteArray→Option R136)
noncomputable def B95l0 (x0:ByteArray) (x5:(List Int)):Option R95:=cnd ((!(x0.toList==(⟨#[]⟩:ByteArray).toList))) ((c135 1000000000000000000).bind fun r1=>((c134 x0 r1).bind fun r2=>((c136 r2.2).bind fun r3=>(if(x5.length+1)*8≤140737488355328 then(gl0 r2.1 (x5++([r3.1]:List Int)))else(none))))) (gl1 (x5.length:Int) 0 x5 ([]:List Int))
theorem e95l0 (s0:SbT ask95.bl) (s:k95l0.T):evPos E0 (orcOf (fes95 c133 c134 c135 c136)) 102 an95 (loOf (les95 gl0 gl1 gl2 gl3)) (rk95 s0) (p95.getD 0 ⟨0,[], .skip⟩) (k95l0.mk' s)=B95l0 gl0 gl1 c134 c135 c136 s.1.1 s.2.1:=by kernel_rfl
noncomputable def B95l1 (x43:Int) (x44:Int) (x5:(List Int)) (x10:(List Int)):Option R95:=if x44<x43 then(if 0≤x44 then(if x44<(x5.length:Int)then(gl2 x44 (rd x5 x44) 0 x43 x44 x5 x10)else(none))else(none))else(gl3 0 (wrap64 ((x10.length:Int)-1)) x10)
theorem e95l1 (s0:SbT ask95.bl) (s:k95l1.T):evPos E0 (orcOf (fes95 c133 c134 c135 c136)) 102 an95 (loOf (les95 gl0 gl1 gl2 gl3)) (rk95 s0) (p95.getD 1 ⟨0,[], .skip⟩) (k95l1.mk' s)=B95l1 gl2 gl3 s.1.1 s.1.2.1 s.2.1 s.2.2.1:=by kernel_rfl
noncomputable def B95l2 (x11:Int) (x12:Int) (x13:Int) (x43:Int) (x44:Int) (x5:(List Int)) (x10:(List Int)):Option R95:=if x13<18 then(if x12>0 then(if(10:Int)=0 then(none)else(if(x10.length+1)*1≤140737488355328 then(if(10:Int)=0 then(none)else(gl2 x11 (IntKind.u64.wrap (Int.tdiv x12 10)) (wrap64 (x13+1)) x43 x44 x5 (x10++([IntKind.u8.wrap (IntKind.u64.wrap (48+(Int.tmod x12 10)))]:List Int))))else(none)))else(if x11<wrap64 ((x5.length:Int)-1)then(if(10:Int)=0 then(none)else(if(x10.length+1)*1≤140737488355328 then(if(10:Int)=0 then(none)else(gl2 x11 (IntKind.u64.wrap (Int.tdiv x12 10)) (wrap64 (x13+1)) x43 x44 x5 (x10++([IntKind.u8.wrap (IntKind.u64.wrap (48+(Int.tmod x12 10)))]:List Int))))else(none)))else(gl1 x43 (wrap64 (x44+1)) x5 x10)))else(gl1 x43 (wrap64 (x44+1)) x5 x10)
theorem e95l2 (s0:SbT ask95.bl) (s:k95l2.T):evPos E0 (orcOf (fes95 c133 c134 c135 c136)) 102 an95 (loOf (les95 gl0 gl1 gl2 gl3)) (rk95 s0) (p95.getD 2 ⟨0,[], .skip⟩) (k95l2.mk' s)=B95l2 gl1 gl2 s.1.1 s.1.2.1 s.1.2.2.1 s.1.2.2.2.1 s.1.2.2.2.2.1 s.2.1 s.2.2.1:=by kernel_rfl
noncomputable def B95l3 (x14:Int) (x15:Int) (x10:(List Int)):Option R95:=if x14<x15 then(if 0≤x15 then(if x15<(x10.length:Int)then(if 0≤x14 then(if x14<(x10.length:Int)then(if 0≤x14 then(if x14<(x10.length:Int)then(if 0≤x15 then(if x15<((x10.set (x14:Int).toNat (rd x10 x15)).length:Int)then(gl3 (wrap64 (x14+1)) (wrap64 (x15-1)) ((x10.set (x14:Int).toNat (rd x10 x15)).set (x15:Int).toNat (rd x10 x14)))else(none))else(none))else(none))else(none))else(none))else(none))else(none))else(none))else(some (strOfNums x10,0))
theorem e95l3 (s0:SbT ask95.bl) (s:k95l3.T):evPos E0 (orcOf (fes95 c133 c134 c135 c136)) 102 an95 (loOf (les95 gl0 gl1 gl2 gl3)) (rk95 s0) (p95.getD 3 ⟨0,[], .skip⟩) (k95l3.mk' s)=B95l3 gl3 s.1.1 s.1.2.1 s.2.1:=by kernel_rfl
noncomputable def B95 (x0:ByteArray):Option R95:=(c133 ([x0]:List ByteArray)).bind fun r1=>(if r1≠0 then(some ((⟨#[]⟩:ByteArray),r1))else(cnd ((x0.toList==(⟨#[]⟩:ByteArray).toList)) (some ((⟨#[48]⟩:ByteArray),0)) (gl0 x0 ([]:List Int))))
theorem e95 (s:ask95.T):evFn E0 (orcOf (fes95 c133 c134 c135 c136)) an95 (loOf (les95 gl0 gl1 gl2 gl3)) 102 cd95 Tryz.f95.results.toList rm95 (ask95.mk' s) (decW rsk95 dec95)=B95 gl0 c133 s.1.1:=by kernel_rfl
end
noncomputable def an94:Ann:=⟨[],[],[]⟩
noncomputable def cd94:Code:=(Tryz.f94.body).getD .skip
noncomputable def rm94:List RM:=[.d .st, .d (.it .i64)]
noncomputable def les94:List (LoE R94):=[]
noncomputable def fes94 (c83:TI→Option R83) (c95:ByteArray→Option R95):List FE:=[(fe83 c83),(fe95 c95)]
section
variable (c83:TI→Option R83) (c95:ByteArray→Option R95)
noncomputable def B94 (x0:TI):Option R94:=(c83 x0).bind fun r1=>(if r1≠0 then(some ((⟨#[]⟩:ByteArray),r1))else((c95 x0.2).bind fun r2=>(cnd (x0.1) (if r2.2=0 then(if(⟨#[45]⟩:ByteArray).size+r2.1.size≤maxStr then(some ((⟨#[45]⟩:ByteArray)++r2.1,r2.2))else(none))else(some (r2.1,r2.2))) (some (r2.1,r2.2)))))
theorem e94 (s:ask94.T):evFn E0 (orcOf (fes94 c83 c95)) an94 (loOf (les94)) 28 cd94 Tryz.f94.results.toList rm94 (ask94.mk' s) (decW rsk94 dec94)=B94 c83 c95 s.1.1:=by kernel_rfl
end
noncomputable def an44:Ann:=⟨[],[],[]⟩
noncomputable def cd44:Code:=(Tryz.f44.body).getD .skip
noncomputable def rm44:List RM:=[.d .st, .d (.it .i64)]
noncomputable def les44:List (LoE R44):=[]
noncomputable def fes44 (c34:TQ→Option R34) (c94:TI→Option R94) (c95:ByteArray→Option R95):List FE:=[(fe34 c34),(fe94 c94),(fe95 c95)]
section
variable (c34:TQ→Option R34) (c94:TI→Option R94) (c95:ByteArray→Option R95)
noncomputable def B44 (x0:TQ):Option R44:=(c34 x0).bind fun r1=>(if r1≠0 then(some ((⟨#[]⟩:ByteArray),r1))else((c94 x0.1).bind fun r2=>(if r2.2≠0 then(some (r2.1,r2.2))else(cnd ((x0.2.toList==(⟨#[1]⟩:ByteArray).toList)) (some (r2.1,r2.2)) ((c95 x0.2).bind fun r3=>(if r3.2≠0 then(some ((⟨#[]⟩:ByteArray),r3.2))else(if r2.1.size+(⟨#[47]⟩:ByteArray).size≤maxStr then(if(r2.1++(⟨#[47]⟩:ByteArray)).size+r3.1.size≤maxStr then(some ((r2.1++(⟨#[47]⟩:ByteArray))++r3.1,0))else(none))else(none))))))))
theorem e44 (s:ask44.T):evFn E0 (orcOf (fes44 c34 c94 c95)) an44 (loOf (les44)) 41 cd44 Tryz.f44.results.toList rm44 (ask44.mk' s) (decW rsk44 dec44)=B44 c34 c94 c95 s.1.1:=by kernel_rfl
end
noncomputable def an99:Ann:=⟨[(2,[(0, .any),(5, .any)])],[],[]⟩
noncomputable def cd99:Code:=(Tryz.f99.body).getD .skip
noncomputable def p99:List Pos:=posns an99 [] cd99
noncomputable def rm99:List RM:=[.d .st, .d .st, .d .bo]
noncomputable def rk99 (s0:SbT ask99.bl):KX R99:=retK E0 Tryz.f99.results.toList rm99 (mkB ask99.bl s0) (decW rsk99 dec99)
noncomputable def k99l0:Sk:=⟨[(0, .d .st),(5, .d (.it .i64))],[]⟩
noncomputable def les99 (gl0:ByteArray→Int→Option R99):List (LoE R99):=[⟨2,k99l0,fun s=>gl0 s.1.1 s.1.2.1⟩]
noncomputable def fes99:List FE:=[]
section
variable (gl0:ByteArray→Int→Option R99)
noncomputable def B99l0 (x0:ByteArray) (x5:Int):Option R99:=if x5<(x0.size:Int)then(if 0≤x5 then(if x5<(x0.size:Int)then(if bt x0 x5=47 then(if(0:Int)≤0 then(if 0≤x5 then(if x5≤(x0.size:Int)then(if(x0.size:Int)≤(x0.size:Int)then(if 0≤wrap64 (x5+1)then(if wrap64 (x5+1)≤(x0.size:Int)then(if(x0.size:Int)≤(x0.size:Int)then(if(x0.size:Int)≤(x0.size:Int)then(some (x0.extract ((0:Int).toNat) ((x5:Int).toNat),x0.extract ((wrap64 (x5+1):Int).toNat) (((x0.size:Int):Int).toNat),true))else(none))else(none))else(none))else(none))else(none))else(none))else(none))else(none))else(gl0 x0 (wrap64 (x5+1))))else(none))else(none))else(some (x0,(⟨#[49]⟩:ByteArray),false))
theorem e99l0 (s0:SbT ask99.bl) (s:k99l0.T):evPos E0 (orcOf (fes99)) 24 an99 (loOf (les99 gl0)) (rk99 s0) (p99.getD 0 ⟨0,[], .skip⟩) (k99l0.mk' s)=B99l0 gl0 s.1.1 s.1.2.1:=by kernel_rfl
noncomputable def B99 (x0:ByteArray):Option R99:=gl0 x0 0
theorem e99 (s:ask99.T):evFn E0 (orcOf (fes99)) an99 (loOf (les99 gl0)) 24 cd99 Tryz.f99.results.toList rm99 (ask99.mk' s) (decW rsk99 dec99)=B99 gl0 s.1.1:=by kernel_rfl
end
noncomputable def an101:Ann:=⟨[(5,[(0, .any),(4, .own (.it .u64)),(5, .any)]),(11,[(0, .any),(4, .any),(5, .any),(6, .any),(7, .any),(31, .any),(32, .any),(33, .any),(34, .any)])],[],[]⟩
noncomputable def cd101:Code:=(Tryz.f101.body).getD .skip
noncomputable def p101:List Pos:=posns an101 [] cd101
noncomputable def rm101:List RM:=[.d .st, .d .bo]
noncomputable def rk101 (s0:SbT ask101.bl):KX R101:=retK E0 Tryz.f101.results.toList rm101 (mkB ask101.bl s0) (decW rsk101 dec101)
noncomputable def k101l0:Sk:=⟨[(0, .d .st),(4, .f (.a (.ref 4))),(5, .d (.it .i64))],[(4, .own (.it .u64) true)]⟩
noncomputable def k101l1:Sk:=⟨[(0, .d .st),(4, .f (.a (.ref 4))),(5, .d (.it .i64)),(6, .d (.it .u64)),(7, .d (.it .i64)),(31, .d .st),(32, .d (.it .i64)),(33, .d (.it .u8)),(34, .d .bo)],[(4, .own (.it .u64) true)]⟩
noncomputable def les101 (gl0:ByteArray→Int→(List Int)→Option R101) (gl1:ByteArray→Int→Int→Int→ByteArray→Int→Int→Bool→(List Int)→Option R101):List (LoE R101):=[⟨5,k101l0,fun s=>gl0 s.1.1 s.1.2.1 s.2.1⟩,⟨11,k101l1,fun s=>gl1 s.1.1 s.1.2.1 s.1.2.2.1 s.1.2.2.2.1 s.1.2.2.2.2.1 s.1.2.2.2.2.2.1 s.1.2.2.2.2.2.2.1 s.1.2.2.2.2.2.2.2.1 s.2.1⟩]
noncomputable def fes101 (c140:(List Int)→Option R140):List FE:=[(fe140 c140)]
section
variable (gl0:ByteArray→Int→(List Int)→Option R101) (gl1:ByteArray→Int→Int→Int→ByteArray→Int→Int→Bool→(List Int)→Option R101) (c140:(List Int)→Option R140)
noncomputable def B101l0 (x0:ByteArray) (x5:Int) (x4:(List Int)):Option R101:=if x5<(x0.size:Int)then(if 0≤x5 then(if x5<(x0.size:Int)then(if bt x0 x5<48 then(some ((⟨#[]⟩:ByteArray),false))else(if 0≤x5 then(if x5<(x0.size:Int)then(if bt x0 x5>57 then(some ((⟨#[]⟩:ByteArray),false))else(if 0≤x5 then(if x5<(x0.size:Int)then(gl1 x0 x5 (IntKind.u64.wrap (IntKind.u8.wrap ((bt x0 x5)-48))) 0 x0 x5 (bt x0 x5) (decide (bt x0 x5>57)) x4)else(none))else(none)))else(none))else(none)))else(none))else(none))else((c140 x4).bind fun r1=>(some (r1,true)))
theorem e101l0 (s0:SbT ask101.bl) (s:k101l0.T):evPos E0 (orcOf (fes101 c140)) 69 an101 (loOf (les101 gl0 gl1)) (rk101 s0) (p101.getD 0 ⟨0,[], .skip⟩) (k101l0.mk' s)=B101l0 gl1 c140 s.1.1 s.1.2.1 s.2.1:=by kernel_rfl
noncomputable def B101l1 (x0:ByteArray) (x5:Int) (x6:Int) (x7:Int) (x31:ByteArray) (x32:Int) (x33:Int) (x34:Bool) (x4:(List Int)):Option R101:=if x7<(x4.length:Int)then(if 0≤x7 then(if x7<(x4.length:Int)then(if 0≤x7 then(if x7<(x4.length:Int)then(if(0:Int)≤32 then(gl1 x0 x5 ((IntKind.u64.wrap (x6+(IntKind.u64.wrap ((rd x4 x7)*10))))/4294967296) (wrap64 (x7+1)) x31 x32 x33 x34 (x4.set (x7:Int).toNat (Go.bits .and .u64 (IntKind.u64.wrap (x6+(IntKind.u64.wrap ((rd x4 x7)*10)))) 4294967295)))else(none))else(none))else(none))else(none))else(none))else(if x6>0 then(if(x4.length+1)*8≤140737488355328 then(gl0 x0 (wrap64 (x5+1)) (x4++([x6]:List Int)))else(none))else(gl0 x0 (wrap64 (x5+1)) x4))
theorem e101l1 (s0:SbT ask101.bl) (s:k101l1.T):evPos E0 (orcOf (fes101 c140)) 69 an101 (loOf (les101 gl0 gl1)) (rk101 s0) (p101.getD 1 ⟨0,[], .skip⟩) (k101l1.mk' s)=B101l1 gl0 gl1 s.1.1 s.1.2.1 s.1.2.2.1 s.1.2.2.2.1 s.1.2.2.2.2.1 s.1.2.2.2.2.2.1 s.1.2.2.2.2.2.2.1 s.1.2.2.2.2.2.2.2.1 s.2.1:=by kernel_rfl
noncomputable def B101 (x0:ByteArray):Option R101:=cnd ((x0.toList==(⟨#[]⟩:ByteArray).toList)) (some ((⟨#[]⟩:ByteArray),false)) (if(x0.size:Int)>1 then(if(0:Int)≤0 then(if 0<(x0.size:Int)then(if bt x0 0=48 then(some ((⟨#[]⟩:ByteArray),false))else(gl0 x0 0 ([]:List Int)))else(none))else(none))else(gl0 x0 0 ([]:List Int)))
theorem e101 (s:ask101.T):evFn E0 (orcOf (fes101 c140)) an101 (loOf (les101 gl0 gl1)) 69 cd101 Tryz.f101.results.toList rm101 (ask101.mk' s) (decW rsk101 dec101)=B101 gl0 s.1.1:=by kernel_rfl
end
noncomputable def an100:Ann:=⟨[],[],[]⟩
noncomputable def cd100:Code:=(Tryz.f100.body).getD .skip
noncomputable def rm100:List RM:=[.d (.ag (.pr .bo .st)), .d .bo]
noncomputable def les100:List (LoE R100):=[]
noncomputable def fes100 (c101:ByteArray→Option R101) (c123:Bool→ByteArray→Option R123):List FE:=[(fe101 c101),(fe123 c123)]
section
variable (c101:ByteArray→Option R101) (c123:Bool→ByteArray→Option R123)
noncomputable def B100 (x0:ByteArray):Option R100:=if(x0.size:Int)>0 then(if(0:Int)≤0 then(if 0<(x0.size:Int)then(if bt x0 0=45 then(if(0:Int)≤1 then(if 1≤(x0.size:Int)then(if(x0.size:Int)≤(x0.size:Int)then(if(x0.size:Int)≤(x0.size:Int)then((c101 (x0.extract ((1:Int).toNat) (((x0.size:Int):Int).toNat))).bind fun r1=>((c123 true r1.1).bind fun r2=>(cnd (r1.2) (some (r2.1,r2.2,(!(r1.1.toList==(⟨#[]⟩:ByteArray).toList)))) (some (r2.1,r2.2,false)))))else(none))else(none))else(none))else(none))else((c101 x0).bind fun r3=>(some (false,r3.1,r3.2))))else(none))else(none))else((c101 x0).bind fun r4=>(some (false,r4.1,r4.2)))
theorem e100 (s:ask100.T):evFn E0 (orcOf (fes100 c101 c123)) an100 (loOf (les100)) 37 cd100 Tryz.f100.results.toList rm100 (ask100.mk' s) (decW rsk100 dec100)=B100 c101 c123 s.1.1:=by kernel_rfl
end
noncomputable def an46:Ann:=⟨[],[],[]⟩
noncomputable def cd46:Code:=(Tryz.f46.body).getD .skip
noncomputable def rm46:List RM:=[.d (.ag (.pr (.ag (.pr .bo .st)) .st)), .d (.it .i64)]
noncomputable def les46:List (LoE R46):=[]
noncomputable def fes46 (c63:TQ→Option R63) (c64:ByteArray→ByteArray→Option R64) (c99:ByteArray→Option R99) (c100:ByteArray→Option R100) (c101:ByteArray→Option R101):List FE:=[(fe63 c63),(fe64 c64),(fe99 c99),(fe100 c100),(fe101 c101)]
section
variable (c63:TQ→Option R63) (c64:ByteArray→ByteArray→Option R64) (c99:ByteArray→Option R99) (c100:ByteArray→Option R100) (c101:ByteArray→Option R101)
noncomputable def B46 (x0:ByteArray):Option R46:=if(x0.size:Int)>4096 then(some ((false,(⟨#[]⟩:ByteArray)),(⟨#[]⟩:ByteArray),12))else((c99 x0).bind fun r1=>((c100 r1.1).bind fun r2=>((c101 r1.2.1).bind fun r3=>(cnd ((!r2.2.2)) (some ((false,(⟨#[]⟩:ByteArray)),(⟨#[]⟩:ByteArray),11)) (cnd ((!r3.2)) (some ((false,(⟨#[]⟩:ByteArray)),(⟨#[]⟩:ByteArray),11)) ((c63 ((r2.1,r2.2.1),r3.1)).bind fun r4=>(if r4≠0 then(some ((false,(⟨#[]⟩:ByteArray)),(⟨#[]⟩:ByteArray),4))else(cnd (r1.2.2) (cnd ((r3.1.toList==(⟨#[]⟩:ByteArray).toList)) (some ((false,(⟨#[]⟩:ByteArray)),(⟨#[]⟩:ByteArray),1)) (cnd ((r3.1.toList==(⟨#[1]⟩:ByteArray).toList)) (some ((false,(⟨#[]⟩:ByteArray)),(⟨#[]⟩:ByteArray),1)) ((c64 r2.2.1 r3.1).bind fun r5=>(cnd ((!(r5.toList==(⟨#[1]⟩:ByteArray).toList))) (some ((false,(⟨#[]⟩:ByteArray)),(⟨#[]⟩:ByteArray),1)) (some ((r2.1,r2.2.1),r3.1,0)))))) ((c64 r2.2.1 r3.1).bind fun r6=>(cnd ((!(r6.toList==(⟨#[1]⟩:ByteArray).toList))) (some ((false,(⟨#[]⟩:ByteArray)),(⟨#[]⟩:ByteArray),1)) (some ((r2.1,r2.2.1),r3.1,0))))))))))))
theorem e46 (s:ask46.T):evFn E0 (orcOf (fes46 c63 c64 c99 c100 c101)) an46 (loOf (les46)) 67 cd46 Tryz.f46.results.toList rm46 (ask46.mk' s) (decW rsk46 dec46)=B46 c63 c64 c99 c100 c101 s.1.1:=by kernel_rfl
end
noncomputable def an103:Ann:=⟨[(5,[(3, .own (.it .u8)),(4, .any)]),(8,[(3, .any),(4, .any),(5, .any),(6, .any)]),(17,[(3, .any),(7, .any),(8, .any)])],[],[]⟩
noncomputable def cd103:Code:=(Tryz.f103.body).getD .skip
noncomputable def p103:List Pos:=posns an103 [] cd103
noncomputable def rm103:List RM:=[.d .st]
noncomputable def rk103 (s0:SbT ask103.bl):KX R103:=retK E0 Tryz.f103.results.toList rm103 (mkB ask103.bl s0) (decW rsk103 dec103)
noncomputable def k103l0:Sk:=⟨[(3, .f (.a (.ref 3))),(4, .f (.a (.ref 4)))],[(3, .own (.it .u8) true),(4, .own (.it .u64) true)]⟩
noncomputable def k103l1:Sk:=⟨[(3, .f (.a (.ref 3))),(4, .f (.a (.ref 4))),(5, .d (.it .u64)),(6, .d (.it .i64))],[(3, .own (.it .u8) true),(4, .own (.it .u64) true)]⟩
noncomputable def k103l2:Sk:=⟨[(3, .f (.a (.ref 3))),(7, .f (.a (.ref 7))),(8, .d (.it .i64))],[(3, .own (.it .u8) true),(7, .own (.it .u8) true)]⟩
noncomputable def les103 (gl0:(List Int)→(List Int)→Option R103) (gl1:Int→Int→(List Int)→(List Int)→Option R103) (gl2:Int→(List Int)→(List Int)→Option R103):List (LoE R103):=[⟨5,k103l0,fun s=>gl0 s.2.1 s.2.2.1⟩,⟨8,k103l1,fun s=>gl1 s.1.1 s.1.2.1 s.2.1 s.2.2.1⟩,⟨17,k103l2,fun s=>gl2 s.1.1 s.2.1 s.2.2.1⟩]
noncomputable def fes103 (c141:ByteArray→Option R141) (c142:(List Int)→Option R142):List FE:=[(fe141 c141),(fe142 c142)]
section
variable (gl0:(List Int)→(List Int)→Option R103) (gl1:Int→Int→(List Int)→(List Int)→Option R103) (gl2:Int→(List Int)→(List Int)→Option R103) (c141:ByteArray→Option R141) (c142:(List Int)→Option R142)
noncomputable def B103l0 (x3:(List Int)) (x4:(List Int)):Option R103:=if(x4.length:Int)>0 then(gl1 0 (wrap64 ((x4.length:Int)-1)) x3 x4)else(if 0≤(x3.length:Int)then(if(x3.length:Int)≤(x3.length:Int)then(if((x3.length:Int):Int).toNat≤281474976710656 then(gl2 0 x3 (List.replicate ((x3.length:Int):Int).toNat (0:Int)))else(none))else(none))else(none))
theorem e103l0 (s0:SbT ask103.bl) (s:k103l0.T):evPos E0 (orcOf (fes103 c141 c142)) 67 an103 (loOf (les103 gl0 gl1 gl2)) (rk103 s0) (p103.getD 0 ⟨0,[], .skip⟩) (k103l0.mk' s)=B103l0 gl1 gl2 s.2.1 s.2.2.1:=by kernel_rfl
noncomputable def B103l1 (x5:Int) (x6:Int) (x3:(List Int)) (x4:(List Int)):Option R103:=if x6≥0 then(if(0:Int)≤32 then(if 0≤x6 then(if x6<(x4.length:Int)then(if(10:Int)=0 then(none)else(if 0≤x6 then(if x6<(x4.length:Int)then(if(10:Int)=0 then(none)else(gl1 (Int.tmod (IntKind.u64.wrap ((IntKind.u64.wrap (x5*4294967296))+(rd x4 x6))) 10) (wrap64 (x6-1)) x3 (x4.set (x6:Int).toNat (IntKind.u64.wrap (Int.tdiv (IntKind.u64.wrap ((IntKind.u64.wrap (x5*4294967296))+(rd x4 x6))) 10)))))else(none))else(none)))else(none))else(none))else(none))else(if(x3.length+1)*1≤140737488355328 then((c142 x4).bind fun r1=>(gl0 (x3++([IntKind.u8.wrap (IntKind.u64.wrap (48+x5))]:List Int)) (r1.2.take (r1.1:Int).toNat)))else(none))
theorem e103l1 (s0:SbT ask103.bl) (s:k103l1.T):evPos E0 (orcOf (fes103 c141 c142)) 67 an103 (loOf (les103 gl0 gl1 gl2)) (rk103 s0) (p103.getD 1 ⟨0,[], .skip⟩) (k103l1.mk' s)=B103l1 gl0 gl1 c142 s.1.1 s.1.2.1 s.2.1 s.2.2.1:=by kernel_rfl
noncomputable def B103l2 (x8:Int) (x3:(List Int)) (x7:(List Int)):Option R103:=if x8<(x3.length:Int)then(if 0≤x8 then(if x8<(x3.length:Int)then(if 0≤wrap64 ((wrap64 ((x3.length:Int)-1))-x8)then(if wrap64 ((wrap64 ((x3.length:Int)-1))-x8)<(x7.length:Int)then(gl2 (wrap64 (x8+1)) x3 (x7.set (wrap64 ((wrap64 ((x3.length:Int)-1))-x8):Int).toNat (rd x3 x8)))else(none))else(none))else(none))else(none))else(some (strOfNums x7))
theorem e103l2 (s0:SbT ask103.bl) (s:k103l2.T):evPos E0 (orcOf (fes103 c141 c142)) 67 an103 (loOf (les103 gl0 gl1 gl2)) (rk103 s0) (p103.getD 2 ⟨0,[], .skip⟩) (k103l2.mk' s)=B103l2 gl2 s.1.1 s.2.1 s.2.2.1:=by kernel_rfl
noncomputable def B103 (x0:ByteArray):Option R103:=cnd ((x0.toList==(⟨#[]⟩:ByteArray).toList)) (some (⟨#[48]⟩:ByteArray)) ((c141 x0).bind fun r1=>(gl0 ([]:List Int) r1))
theorem e103 (s:ask103.T):evFn E0 (orcOf (fes103 c141 c142)) an103 (loOf (les103 gl0 gl1 gl2)) 67 cd103 Tryz.f103.results.toList rm103 (ask103.mk' s) (decW rsk103 dec103)=B103 gl0 c141 s.1.1:=by kernel_rfl
end
noncomputable def an102:Ann:=⟨[],[],[]⟩
noncomputable def cd102:Code:=(Tryz.f102.body).getD .skip
noncomputable def rm102:List RM:=[.d .st]
noncomputable def les102:List (LoE R102):=[]
noncomputable def fes102 (c103:ByteArray→Option R103):List FE:=[(fe103 c103)]
section
variable (c103:ByteArray→Option R103)
noncomputable def B102 (x0:TI):Option R102:=cnd (x0.1) ((c103 x0.2).bind fun r1=>(if(⟨#[45]⟩:ByteArray).size+r1.size≤maxStr then(some ((⟨#[45]⟩:ByteArray)++r1))else(none))) ((c103 x0.2).bind fun r2=>(some r2))
theorem e102 (s:ask102.T):evFn E0 (orcOf (fes102 c103)) an102 (loOf (les102)) 12 cd102 Tryz.f102.results.toList rm102 (ask102.mk' s) (decW rsk102 dec102)=B102 c103 s.1.1:=by kernel_rfl
end
noncomputable def an47:Ann:=⟨[],[],[]⟩
noncomputable def cd47:Code:=(Tryz.f47.body).getD .skip
noncomputable def rm47:List RM:=[.d .st]
noncomputable def les47:List (LoE R47):=[]
noncomputable def fes47 (c102:TI→Option R102) (c103:ByteArray→Option R103):List FE:=[(fe102 c102),(fe103 c103)]
section
variable (c102:TI→Option R102) (c103:ByteArray→Option R103)
noncomputable def B47 (x0:TQ):Option R47:=cnd ((x0.2.toList==(⟨#[1]⟩:ByteArray).toList)) ((c102 x0.1).bind fun r1=>(some r1)) ((c102 x0.1).bind fun r2=>(if r2.size+(⟨#[47]⟩:ByteArray).size≤maxStr then((c103 x0.2).bind fun r3=>(if(r2++(⟨#[47]⟩:ByteArray)).size+r3.size≤maxStr then(some ((r2++(⟨#[47]⟩:ByteArray))++r3))else(none)))else(none)))
theorem e47 (s:ask47.T):evFn E0 (orcOf (fes47 c102 c103)) an47 (loOf (les47)) 17 cd47 Tryz.f47.results.toList rm47 (ask47.mk' s) (decW rsk47 dec47)=B47 c102 c103 s.1.1:=by kernel_rfl
end
noncomputable def an9:Ann:=⟨[],[],[]⟩
noncomputable def cd9:Code:=(Tryz.f9.body).getD .skip
noncomputable def rm9:List RM:=[.d .bo]
noncomputable def les9:List (LoE R9):=[]
noncomputable def fes9 (c10:Option R10) (c11:TQ→TQ→Int→Option R11) (c16:TQ→Option R16) (c44:TQ→Option R44) (c45:ByteArray→Option R45) (c46:ByteArray→Option R46) (c47:TQ→Option R47):List FE:=[(fe10 c10),(fe11 c11),(fe16 c16),(fe44 c44),(fe45 c45),(fe46 c46),(fe47 c47)]
section
variable (c10:Option R10) (c11:TQ→TQ→Int→Option R11) (c16:TQ→Option R16) (c44:TQ→Option R44) (c45:ByteArray→Option R45) (c46:ByteArray→Option R46) (c47:TQ→Option R47)
noncomputable def B9 (x0:TQ) (x1:ByteArray):Option R9:=(c10).bind fun r1=>(cnd ((!r1)) ((c10).bind fun r2=>(some r2)) ((c11 x0 x0 300).bind fun r3=>(cnd (r3) ((c10).bind fun r4=>(some r4)) (if(x1.size:Int)>4200 then((c10).bind fun r5=>(some r5))else((c44 x0).bind fun r6=>((c45 x1).bind fun r7=>((c46 x1).bind fun r8=>(cnd ((!(((r7.1.1==r8.1.1)&&(r7.1.2.toList==r8.1.2.toList))&&(r7.2.1.toList==r8.2.1.toList)))) (some false) (if r7.2.2≠r8.2.2 then(some false)else((c16 x0).bind fun r9=>(if r9≠0 then(cnd ((r6.1.toList==(⟨#[]⟩:ByteArray).toList)) (some (decide (r6.2=r9))) (some false))else((c45 r6.1).bind fun r10=>((c47 x0).bind fun r11=>(cnd ((r6.1.toList==r11.toList)) (if r6.2=0 then(cnd ((((r10.1.1==x0.1.1)&&(r10.1.2.toList==x0.1.2.toList))&&(r10.2.1.toList==x0.2.toList))) (some (decide (r10.2.2=0))) (some false))else(some false)) (some false)))))))))))))))
theorem e9 (s:ask9.T):evFn E0 (orcOf (fes9 c10 c11 c16 c44 c45 c46 c47)) an9 (loOf (les9)) 83 cd9 Tryz.f9.results.toList rm9 (ask9.mk' s) (decW rsk9 dec9)=B9 c10 c11 c16 c44 c45 c46 c47 s.1.1 s.1.2.1:=by kernel_rfl
end
end Go.Proofs.YtjllholdppjllaaGreatV
namespace Go.Proofs.YtjllholdppjllaaGreatE
open Go.RowKit Go.Proofs.YtjllholdppjllaaGreatW.PrintWords Go.Proofs.YtjllholdppjllaaGreatW.PrintLast Go.Proofs.YtjllholdppjllaaGreatW.PrintMore
section
variable {α β:Type}
theorem LeO.iteL {p:Prop} [Decidable p] {a b t:Option α} (h1:p→LeO a t) (h2:¬p→LeO b t):LeO (if p then a else b) t:=by
 by_cases h:p
 ·rw [if_pos h];exact h1 h
 ·rw [if_neg h];exact h2 h
theorem LeO.bindL {x:Option β} {f:β→Option α} {t:Option α} (h:∀v,x=some v→LeO (f v) t):LeO (x.bind f) t:=by
 cases hx:x with
 |none=>intro r hr;cases hr
 |some v=>exact h v hx
theorem LeO.bindK {x:Option β} {v:β} {f:β→Option α} {t:Option α} (hx:x=some v) (h:LeO (f v) t):LeO (x.bind f) t:=by rw [hx];exact h
theorem LeO.posL {p:Prop} [Decidable p] {t a b:Option α} (hp:p) (h:LeO a t):LeO (if p then a else b) t:=by rw [if_pos hp];exact h
theorem LeO.negL {p:Prop} [Decidable p] {t a b:Option α} (hp:¬p) (h:LeO b t):LeO (if p then a else b) t:=by rw [if_neg hp];exact h
theorem LeO.posR {p:Prop} [Decidable p] {t a b:Option α} (hp:p) (h:LeO t a):LeO t (if p then a else b):=by rw [if_pos hp];exact h
theorem LeO.negR {p:Prop} [Decidable p] {t a b:Option α} (hp:¬p) (h:LeO t b):LeO t (if p then a else b):=by rw [if_neg hp];exact h
theorem LeO.nnegR {p:Prop} [Decidable p] {t a b:Option α} (hp:p) (h:LeO t b):LeO t (if¬p then a else b):=by rw [if_neg (fun q=>q hp)];exact h
theorem LeO.bindR {x:Option β} {v:β} {f:β→Option α} {t:Option α} (hx:x=some v) (h:LeO t (f v)):LeO t (x.bind f):=by rw [hx];exact h
theorem LeO.ctR {b:Bool} {t x y:Option α} (hp:b=true) (h:LeO t x):LeO t (cnd b x y):=by rw [hp];exact h
theorem LeO.cfR {b:Bool} {t x y:Option α} (hp:¬b=true) (h:LeO t y):LeO t (cnd b x y):=by
 rw [Bool.eq_false_iff.2 hp];exact h
theorem BAe:ByteArray.empty=⟨#[]⟩:=id rfl
theorem wrap_mod (x:Int):IntKind.u64.wrap (x%256)=x%256:=by
 show x%256%18446744073709551616=x%256
 omega
theorem bfalse (b:Bool):(b=false)=¬(b=true):=by cases b<;>simp
theorem ite_and_ {p q:Prop} [Decidable (p∧q)] [Decidable p] [Decidable q] (a b:α):(if p∧q then a else b)=if p then(if q then a else b)else b:=by
 by_cases h:p<;>by_cases k:q<;>simp [h,k]
theorem ite_or_ {p q:Prop} [Decidable (p∨q)] [Decidable p] [Decidable q] (a b:α):(if p∨q then a else b)=if p then a else(if q then a else b):=by
 by_cases h:p<;>by_cases k:q<;>simp [h,k]
theorem slice_def {τ:Type} (l:List τ) (i h:Int):slice_ l i h=(l.take h.toNat).drop i.toNat:=id rfl
theorem bind_some_ (a:β) (f:β→Option α):(some a).bind f=f a:=id rfl
theorem bind_assoc_ {γ:Type} (x:Option γ) (f:γ→Option β) (g:β→Option α):(x.bind f).bind g=x.bind fun y=>(f y).bind g:=by cases x<;>rfl
theorem ite_bind_ {p:Prop} [Decidable p] (x y:Option β) (f:β→Option α):(if p then x else y).bind f=if p then x.bind f else y.bind f:=by by_cases h:p<;>simp [h]
theorem isEmpty_eq (l:List UInt8):l.isEmpty=(l==[]):=by cases l<;>rfl
theorem wrap_u8 (x:Int):IntKind.u8.wrap x=x%256:=id rfl
theorem toList_mk (a:Array UInt8):(⟨a⟩:ByteArray).toList=a.toList:=ByteArray.toList_eq _
theorem cnd_eq_if (b:Bool) (x y:Option α):cnd b x y=if b=true then x else y:=by cases b<;>rfl
theorem decide_int_eq (x y:Int):(x==y)=decide (x=y):=id rfl
theorem BR {g:Prop} (h:g:=by
 (try simp only [List.take_append_drop,List.drop_length,List.append_nil,Int.zero_sub,Int.toNat_natCast,Int.reduceToNat,Int.zero_add,List.take_zero,List.nil_append,List.append_assoc,List.length_set,ite_bind_,List.take_left,BAe,bne,decide_int_eq,decide_not,wrap_mod,if_true,if_false,Bool.false_eq_true,bind_assoc_,slice_def,List.drop_zero,List.take_length,wrap_u8,bind_some_,cnd_eq_if,rdOf,ite_not,Bool.and_eq_true,Bool.or_eq_true,Bool.not_eq_true',bfalse,Bool.not_eq_false',beq_iff_eq,decide_eq_true_eq,isEmpty_eq,ite_and_,ite_or_,ne_eq,toList_mk,List.toList_toArray])
 repeat' first
 | (with_reducible exact LeO.none _)
 | (with_reducible exact LeO.refl _)
 | (with_reducible refine LeO.posR (by with_reducible assumption) ?_)
 | (with_reducible refine LeO.negR (by with_reducible assumption) ?_)
 | (with_reducible refine LeO.nnegR (by with_reducible assumption) ?_)
 | (with_reducible refine LeO.bindR (by with_reducible assumption) ?_)
 | (with_reducible refine LeO.ctR (by with_reducible assumption) ?_)
 | (with_reducible refine LeO.cfR (by with_reducible assumption) ?_)
 | (with_reducible refine LeO.posL (by with_reducible assumption) ?_)
 | (with_reducible refine LeO.negL (by with_reducible assumption) ?_)
 | (with_reducible refine LeO.iteL (fun _=>?_) (fun _=>?_))
 | (with_reducible refine LeO.bindK (by with_reducible assumption) ?_)
 | (with_reducible refine LeO.bindL (fun _ _=>?_))
 | (refine LeO.posR (by first|decide|exact Int.le_refl _|omega|assumption) ?_)
 | (refine LeO.negR (by first|decide|omega) ?_)):g:=h
end
end Go.Proofs.YtjllholdppjllaaGreatE
namespace Go.Proofs.YtjllholdppjllaaGreat.All
open Go.RowKit Go.Proofs.YtjllholdppjllaaGreatW.PrintWords Go.Proofs.YtjllholdppjllaaGreatW.PrintLast Go.Proofs.YtjllholdppjllaaGreatW.PrintMore
abbrev S24:=Bool×ByteArray
def z24:S24:=(false,(⟨#[]⟩:ByteArray))
abbrev S24.f0 (x:S24):Bool:=x.1
abbrev S24.f1 (x:S24):ByteArray:=x.2
def rd_T24 (xs:List S24) (i:Int):S24:=xs.getD i.toNat z24
def integer_zero.f:Option (Bool×ByteArray):=some (false,(⟨#[]⟩:ByteArray))
def natural_Check.j0:Nat→ByteArray→Bool→Option (Int)
  |0,_,_=>none
  |k+1,x0,x10=>if x10=true then(some 1)else(if(x0.size:Int)>1024 then(some 4)else(some 0))
def natural_Check.f (k:Nat) (a0:ByteArray):Option (Int):=if(a0.size:Int)>0 then(if 0<(a0.size:Int)then(natural_Check.j0 k a0 ((bt a0 0)==0))else(none))else(natural_Check.j0 k a0 false)
theorem natural_Check.U1 {g:Prop} (h:g:=by
  with_reducible repeat' first
  |exact ih0 _ _
  |exact LeO.refl _
  |exact LeO.none _
  |refine LeO.ite ?_ ?_
  |refine LeO.bind ?_ (fun _=>?_)):g:=h
theorem natural_Check.mono_l:∀k,(∀y0 y1,LeO (natural_Check.j0 k y0 y1) (natural_Check.j0 (k+1) y0 y1))
  |0=>fun _ _ r h=>by simp [natural_Check.j0]at h
  | k+1=>by
    have ih0:=natural_Check.mono_l k
    · intro y0 y1
      unfold natural_Check.j0
      exact natural_Check.U1
theorem natural_Check.mono:∀a0 k,LeO (natural_Check.f k a0) (natural_Check.f (k+1) a0):=by
  intro a0 k
  have ih0:=natural_Check.mono_l k
  unfold natural_Check.f
  exact natural_Check.U1
def integer_Check.f (k:Nat) (a0_0:Bool) (a0_1:ByteArray):Option (Int):=(natural_Check.f k a0_1).bind fun t103=>(if t103=1 then(some t103)else((integer_zero.f).bind fun bt104=>(if(!(a0_0==bt104.1)||(!(a0_1.toList==bt104.2.toList)))=true then(if a0_1.toList=([]:List UInt8)then(some 1)else(some t103))else(some t103))))
theorem integer_Check.mono:∀a0 a1 k,LeO (integer_Check.f k a0 a1) (integer_Check.f (k+1) a0 a1):=by
  intro a0 a1 k
  unfold integer_Check.f
  with_reducible repeat' first
      |exact natural_Check.mono _ _
      |exact LeO.refl _
      |exact LeO.none _
      |refine LeO.ite ?_ ?_
      |refine LeO.bind ?_ (fun _=>?_)
def exact_compareWords.l0:Nat→List Int→List Int→Int→Option (Int)
  |0,_,_,_=>none
  |k+1,x0,x1,x5=>if x5≥0 then(if 0≤x5 then(if x5<(x0.length:Int)then(if x5<(x1.length:Int)then(if(rd x0 x5)=(rd x1 x5)then(exact_compareWords.l0 k x0 x1 (wrap64 (x5-1)))else(if(rd x0 x5)<(rd x1 x5)then(some (-1))else(some 1)))else(none))else(none))else(none))else(some 0)
def exact_compareWords.f (k:Nat) (l0:List Int) (l1:List Int):Option (Int):=if(l0.length:Int)=(l1.length:Int)then(exact_compareWords.l0 k l0 l1 (wrap64 ((l0.length:Int)-1)))else(if(l0.length:Int)<(l1.length:Int)then(some (-1))else(some 1))
theorem exact_compareWords.U1 {g:Prop} (h:g:=by
  with_reducible repeat' first
  |exact ih0 _ _ _
  |exact LeO.refl _
  |exact LeO.none _
  |refine LeO.ite ?_ ?_
  |refine LeO.bind ?_ (fun _=>?_)):g:=h
theorem exact_compareWords.mono_l:∀k,(∀y0 y1 y2,LeO (exact_compareWords.l0 k y0 y1 y2) (exact_compareWords.l0 (k+1) y0 y1 y2))
  |0=>fun _ _ _ r h=>by simp [exact_compareWords.l0]at h
  | k+1=>by
    have ih0:=exact_compareWords.mono_l k
    · intro y0 y1 y2
      unfold exact_compareWords.l0
      exact exact_compareWords.U1
theorem exact_compareWords.mono:∀a0 a1 k,LeO (exact_compareWords.f k a0 a1) (exact_compareWords.f (k+1) a0 a1):=by
  intro a0 a1 k
  have ih0:=exact_compareWords.mono_l k
  unfold exact_compareWords.f
  exact exact_compareWords.U1
def bits_Len64.f (a0:Int):Option (Int):=if 0≤a0∧a0≤18446744073709551615 then some (Lib.bitLen a0.toNat:Int)else none
def bits_LeadingZeros64.f (a0:Int):Option (Int):=(bits_Len64.f a0).bind fun t113=>(some (wrap64 (64-t113)))
mutual
def bits_Div64.j2:Nat→Int→Int→Int→Int→Int→Int→Int→Int→Option (Int×Int)
  |0,_,_,_,_,_,_,_,_=>none
  |k+1,x2,x8,x9,x10,x11,x13,x14,x15=>if x9=0 then(none)else(bits_Div64.l1 k x2 x8 x9 x10 x14 x15 (IntKind.u64.wrap ((IntKind.u64.wrap ((IntKind.u64.wrap ((IntKind.u64.wrap (x11*4294967296))+x13))-(IntKind.u64.wrap (x15*x2))))-(IntKind.u64.wrap ((IntKind.u64.wrap (Int.tdiv (IntKind.u64.wrap ((IntKind.u64.wrap ((IntKind.u64.wrap (x11*4294967296))+x13))-(IntKind.u64.wrap (x15*x2)))) x9))*x9)))) (IntKind.u64.wrap ((IntKind.u64.wrap ((IntKind.u64.wrap (x11*4294967296))+x13))-(IntKind.u64.wrap (x15*x2)))) (IntKind.u64.wrap (Int.tdiv (IntKind.u64.wrap ((IntKind.u64.wrap ((IntKind.u64.wrap (x11*4294967296))+x13))-(IntKind.u64.wrap (x15*x2)))) x9)))
def bits_Div64.l1:Nat→Int→Int→Int→Int→Int→Int→Int→Int→Int→Option (Int×Int)
  |0,_,_,_,_,_,_,_,_,_=>none
  |k+1,x2,x8,x9,x10,x14,x15,x16,x17,x18=>if x18≥4294967296 then(bits_Div64.j4 k x2 x8 x9 x10 x14 x15 x16 x17 x18 true)else(bits_Div64.j4 k x2 x8 x9 x10 x14 x15 x16 x17 x18 (decide ((IntKind.u64.wrap (x18*x10))>(IntKind.u64.wrap ((IntKind.u64.wrap (4294967296*x16))+x14)))))
def bits_Div64.j4:Nat→Int→Int→Int→Int→Int→Int→Int→Int→Int→Bool→Option (Int×Int)
  |0,_,_,_,_,_,_,_,_,_,_=>none
  |k+1,x2,x8,x9,x10,x14,x15,x16,x17,x18,x113=>if x113=true then(if(IntKind.u64.wrap (x16+x9))≥4294967296 then(if 0≤x8 then(some (IntKind.u64.wrap ((IntKind.u64.wrap (x15*4294967296))+(IntKind.u64.wrap (x18-1))),shr .u64 (IntKind.u64.wrap ((IntKind.u64.wrap ((IntKind.u64.wrap (x17*4294967296))+x14))-(IntKind.u64.wrap ((IntKind.u64.wrap (x18-1))*x2)))) x8))else(none))else(bits_Div64.l1 k x2 x8 x9 x10 x14 x15 (IntKind.u64.wrap (x16+x9)) x17 (IntKind.u64.wrap (x18-1))))else(if 0≤x8 then(some (IntKind.u64.wrap ((IntKind.u64.wrap (x15*4294967296))+x18),shr .u64 (IntKind.u64.wrap ((IntKind.u64.wrap ((IntKind.u64.wrap (x17*4294967296))+x14))-(IntKind.u64.wrap (x18*x2)))) x8))else(none))
def bits_Div64.l0:Nat→Int→Int→Int→Int→Int→Int→Int→Int→Int→Option (Int×Int)
  |0,_,_,_,_,_,_,_,_,_=>none
  |k+1,x2,x8,x9,x10,x11,x13,x14,x15,x16=>if x15≥4294967296 then(bits_Div64.j1 k x2 x8 x9 x10 x11 x13 x14 x15 x16 true)else(bits_Div64.j1 k x2 x8 x9 x10 x11 x13 x14 x15 x16 (decide ((IntKind.u64.wrap (x15*x10))>(IntKind.u64.wrap ((IntKind.u64.wrap (4294967296*x16))+x13)))))
def bits_Div64.j1:Nat→Int→Int→Int→Int→Int→Int→Int→Int→Int→Bool→Option (Int×Int)
  |0,_,_,_,_,_,_,_,_,_,_=>none
  |k+1,x2,x8,x9,x10,x11,x13,x14,x15,x16,x78=>if x78=true then(if(IntKind.u64.wrap (x16+x9))≥4294967296 then(bits_Div64.j2 k x2 x8 x9 x10 x11 x13 x14 (IntKind.u64.wrap (x15-1)))else(bits_Div64.l0 k x2 x8 x9 x10 x11 x13 x14 (IntKind.u64.wrap (x15-1)) (IntKind.u64.wrap (x16+x9))))else(bits_Div64.j2 k x2 x8 x9 x10 x11 x13 x14 x15)
end
def bits_Div64.f (k:Nat) (a0:Int) (a1:Int) (a2:Int):Option (Int×Int):=if a2=0 then(none)else(if a2≤a0 then(none)else(if a0=0 then(some (IntKind.u64.wrap (Int.tdiv a1 a2),Int.tmod a1 a2))else((bits_LeadingZeros64.f a2).bind fun t114=>(if 0≤(IntKind.u64.wrap (t114))then(if 0≤(IntKind.u64.wrap (64-(IntKind.u64.wrap (t114))))then(if((shl .u64 a2 (IntKind.u64.wrap (t114)))/4294967296)=0 then(none)else(bits_Div64.l0 k (shl .u64 a2 (IntKind.u64.wrap (t114))) (IntKind.u64.wrap (t114)) ((shl .u64 a2 (IntKind.u64.wrap (t114)))/4294967296) (Go.bits .and .u64 (shl .u64 a2 (IntKind.u64.wrap (t114))) 4294967295) (Go.bits .or .u64 (shl .u64 a0 (IntKind.u64.wrap (t114))) (shr .u64 a1 (IntKind.u64.wrap (64-(IntKind.u64.wrap (t114)))))) ((shl .u64 a1 (IntKind.u64.wrap (t114)))/4294967296) (Go.bits .and .u64 (shl .u64 a1 (IntKind.u64.wrap (t114))) 4294967295) (IntKind.u64.wrap (Int.tdiv (Go.bits .or .u64 (shl .u64 a0 (IntKind.u64.wrap (t114))) (shr .u64 a1 (IntKind.u64.wrap (64-(IntKind.u64.wrap (t114)))))) ((shl .u64 a2 (IntKind.u64.wrap (t114)))/4294967296))) (IntKind.u64.wrap ((Go.bits .or .u64 (shl .u64 a0 (IntKind.u64.wrap (t114))) (shr .u64 a1 (IntKind.u64.wrap (64-(IntKind.u64.wrap (t114))))))-(IntKind.u64.wrap ((IntKind.u64.wrap (Int.tdiv (Go.bits .or .u64 (shl .u64 a0 (IntKind.u64.wrap (t114))) (shr .u64 a1 (IntKind.u64.wrap (64-(IntKind.u64.wrap (t114)))))) ((shl .u64 a2 (IntKind.u64.wrap (t114)))/4294967296)))*((shl .u64 a2 (IntKind.u64.wrap (t114)))/4294967296)))))))else(none))else(none)))))
theorem bits_Div64.U1 {g:Prop} (h:g:=by
  with_reducible repeat' first
  |exact ih0 _ _ _ _ _ _ _ _
  |exact ih1 _ _ _ _ _ _ _ _ _
  |exact ih2 _ _ _ _ _ _ _ _ _ _
  |exact ih3 _ _ _ _ _ _ _ _ _
  |exact ih4 _ _ _ _ _ _ _ _ _ _
  |exact LeO.refl _
  |exact LeO.none _
  |refine LeO.ite ?_ ?_
  |refine LeO.bind ?_ (fun _=>?_)):g:=h
theorem bits_Div64.mono_l:∀k,(∀y0 y1 y2 y3 y4 y5 y6 y7,LeO (bits_Div64.j2 k y0 y1 y2 y3 y4 y5 y6 y7) (bits_Div64.j2 (k+1) y0 y1 y2 y3 y4 y5 y6 y7))∧(∀y0 y1 y2 y3 y4 y5 y6 y7 y8,LeO (bits_Div64.l1 k y0 y1 y2 y3 y4 y5 y6 y7 y8) (bits_Div64.l1 (k+1) y0 y1 y2 y3 y4 y5 y6 y7 y8))∧(∀y0 y1 y2 y3 y4 y5 y6 y7 y8 y9,LeO (bits_Div64.j4 k y0 y1 y2 y3 y4 y5 y6 y7 y8 y9) (bits_Div64.j4 (k+1) y0 y1 y2 y3 y4 y5 y6 y7 y8 y9))∧(∀y0 y1 y2 y3 y4 y5 y6 y7 y8,LeO (bits_Div64.l0 k y0 y1 y2 y3 y4 y5 y6 y7 y8) (bits_Div64.l0 (k+1) y0 y1 y2 y3 y4 y5 y6 y7 y8))∧(∀y0 y1 y2 y3 y4 y5 y6 y7 y8 y9,LeO (bits_Div64.j1 k y0 y1 y2 y3 y4 y5 y6 y7 y8 y9) (bits_Div64.j1 (k+1) y0 y1 y2 y3 y4 y5 y6 y7 y8 y9))
  |0=>⟨fun _ _ _ _ _ _ _ _ r h=>by simp [bits_Div64.j2]at h,fun _ _ _ _ _ _ _ _ _ r h=>by simp [bits_Div64.l1]at h,fun _ _ _ _ _ _ _ _ _ _ r h=>by simp [bits_Div64.j4]at h,fun _ _ _ _ _ _ _ _ _ r h=>by simp [bits_Div64.l0]at h,fun _ _ _ _ _ _ _ _ _ _ r h=>by simp [bits_Div64.j1]at h⟩
  | k+1=>by
    obtain⟨ih0,ih1,ih2,ih3,ih4⟩:=bits_Div64.mono_l k
    refine⟨?_,?_,?_,?_,?_⟩
    · intro y0 y1 y2 y3 y4 y5 y6 y7
      unfold bits_Div64.j2
      exact bits_Div64.U1
    · intro y0 y1 y2 y3 y4 y5 y6 y7 y8
      unfold bits_Div64.l1
      exact bits_Div64.U1
    · intro y0 y1 y2 y3 y4 y5 y6 y7 y8 y9
      unfold bits_Div64.j4
      exact bits_Div64.U1
    · intro y0 y1 y2 y3 y4 y5 y6 y7 y8
      unfold bits_Div64.l0
      exact bits_Div64.U1
    · intro y0 y1 y2 y3 y4 y5 y6 y7 y8 y9
      unfold bits_Div64.j1
      exact bits_Div64.U1
theorem bits_Div64.mono:∀a0 a1 a2 k,LeO (bits_Div64.f k a0 a1 a2) (bits_Div64.f (k+1) a0 a1 a2):=by
  intro a0 a1 a2 k
  obtain⟨ih0,ih1,ih2,ih3,ih4⟩:=bits_Div64.mono_l k
  unfold bits_Div64.f
  exact bits_Div64.U1
def exact_trim.l0:Nat→List Int→Int→Option (List Int)
  |0,_,_=>none
  |k+1,x0,x3=>if x3>0 then(if 0≤(wrap64 (x3-1))then(if(wrap64 (x3-1))<(x0.length:Int)then(if(rd x0 (wrap64 (x3-1)))=0 then(exact_trim.l0 k x0 (wrap64 (x3-1)))else(if 0≤x3 then(if x3≤(x0.length:Int)then(some (x0.take (x3:Int).toNat))else(none))else(none)))else(none))else(none))else(if 0≤x3 then(if x3≤(x0.length:Int)then(some (x0.take (x3:Int).toNat))else(none))else(none))
def exact_trim.f (k:Nat) (l0:List Int):Option (List Int):=exact_trim.l0 k l0 (l0.length:Int)
theorem exact_trim.U1 {g:Prop} (h:g:=by
  with_reducible repeat' first
  |exact ih0 _ _
  |exact LeO.refl _
  |exact LeO.none _
  |refine LeO.ite ?_ ?_
  |refine LeO.bind ?_ (fun _=>?_)):g:=h
theorem exact_trim.mono_l:∀k,(∀y0 y1,LeO (exact_trim.l0 k y0 y1) (exact_trim.l0 (k+1) y0 y1))
  |0=>fun _ _ r h=>by simp [exact_trim.l0]at h
  | k+1=>by
    have ih0:=exact_trim.mono_l k
    · intro y0 y1
      unfold exact_trim.l0
      exact exact_trim.U1
theorem exact_trim.mono:∀a0 k,LeO (exact_trim.f k a0) (exact_trim.f (k+1) a0):=by
  intro a0 k
  have ih0:=exact_trim.mono_l k
  unfold exact_trim.f
  exact exact_trim.U1
def exact_shiftUp.l0:Nat→Int→List Int→List Int→Int→Int→Option (List Int)
  |0,_,_,_,_,_=>none
  |k+1,x1,x5,x12,x13,x14=>if x14<x13 then(if 0≤x14 then(if x14<(x12.length:Int)then(if x14<(x5.length:Int)then(if 0≤x1 then((some (x5.set (x14:Int).toNat (Go.bits .or .u64 (rd x5 x14) (shl .u64 (rd x12 x14) x1)):List Int)).bind fun y127=>(if x1>0 then(if 0≤(wrap64 (64-x1))then(if 0≤(wrap64 (x14+1))then(if(wrap64 (x14+1))<(x5.length:Int)then(exact_shiftUp.l0 k x1 (y127.set ((wrap64 (x14+1)):Int).toNat (shr .u64 (rd x12 x14) (wrap64 (64-x1)))) x12 x13 (wrap64 (x14+1)))else(none))else(none))else(none))else(exact_shiftUp.l0 k x1 y127 x12 x13 (wrap64 (x14+1)))))else(none))else(none))else(none))else(none))else(some x5)
def exact_shiftUp.f (k:Nat) (l0:List Int) (a1:Int):Option (List Int):=if 0≤(wrap64 ((l0.length:Int)+1))then(if(wrap64 ((l0.length:Int)+1):Int).toNat≤35184372088832 then(exact_shiftUp.l0 k a1 (List.replicate (wrap64 ((l0.length:Int)+1):Int).toNat 0) l0 (l0.length:Int) 0)else(none))else(none)
theorem exact_shiftUp.U1 {g:Prop} (h:g:=by
  with_reducible repeat' first
  |exact ih0 _ _ _ _ _
  |exact LeO.refl _
  |exact LeO.none _
  |refine LeO.ite ?_ ?_
  |refine LeO.bind ?_ (fun _=>?_)):g:=h
theorem exact_shiftUp.mono_l:∀k,(∀y0 y1 y2 y3 y4,LeO (exact_shiftUp.l0 k y0 y1 y2 y3 y4) (exact_shiftUp.l0 (k+1) y0 y1 y2 y3 y4))
  |0=>fun _ _ _ _ _ r h=>by simp [exact_shiftUp.l0]at h
  | k+1=>by
    have ih0:=exact_shiftUp.mono_l k
    · intro y0 y1 y2 y3 y4
      unfold exact_shiftUp.l0
      exact exact_shiftUp.U1
theorem exact_shiftUp.mono:∀a0 a1 k,LeO (exact_shiftUp.f k a0 a1) (exact_shiftUp.f (k+1) a0 a1):=by
  intro a0 a1 k
  have ih0:=exact_shiftUp.mono_l k
  unfold exact_shiftUp.f
  exact exact_shiftUp.U1
def bits_Add64.f (a0:Int) (a1:Int) (a2:Int):Option (Int×Int):=if 0≤a0∧0≤a1∧0≤a2∧a2≤1 then some ((a0+a1+a2)%18446744073709551616,(a0+a1+a2)/18446744073709551616)else none
def bits_Sub64.f (a0:Int) (a1:Int) (a2:Int):Option (Int×Int):=if 0≤a0∧0≤a1∧a1≤18446744073709551615∧0≤a2∧a2≤1 then some ((a0-a1-a2)%18446744073709551616,if a0<a1+a2 then 1 else 0)else none
def bits_Mul64.f (a0:Int) (a1:Int):Option (Int×Int):=some (IntKind.u64.wrap ((IntKind.u64.wrap ((IntKind.u64.wrap ((a0/4294967296)*(a1/4294967296)))+((IntKind.u64.wrap ((IntKind.u64.wrap ((a0/4294967296)*(Go.bits .and .u64 a1 4294967295)))+((IntKind.u64.wrap ((Go.bits .and .u64 a0 4294967295)*(Go.bits .and .u64 a1 4294967295)))/4294967296)))/4294967296)))+((IntKind.u64.wrap ((Go.bits .and .u64 (IntKind.u64.wrap ((IntKind.u64.wrap ((a0/4294967296)*(Go.bits .and .u64 a1 4294967295)))+((IntKind.u64.wrap ((Go.bits .and .u64 a0 4294967295)*(Go.bits .and .u64 a1 4294967295)))/4294967296))) 4294967295)+(IntKind.u64.wrap ((Go.bits .and .u64 a0 4294967295)*(a1/4294967296)))))/4294967296)),IntKind.u64.wrap (a0*a1))
mutual
def exact_step.j0:Nat→List Int→List Int→Int→Int→Int→Int→Option (Int×List Int)
  |0,_,_,_,_,_,_=>none
  |k+1,x0,x1,x5,x6,x7,x8=>exact_step.l0 k x0 x1 x5 x6 x7 x8
def exact_step.j2:Nat→List Int→List Int→Int→Int→Option (Int×List Int)
  |0,_,_,_,_=>none
  |k+1,x0,x1,x5,x6=>exact_step.l1 k x0 x1 x5 x6 0 0 x5 0
def exact_step.l1:Nat→List Int→List Int→Int→Int→Int→Int→Int→Int→Option (Int×List Int)
  |0,_,_,_,_,_,_,_,_=>none
  |k+1,x0,x1,x5,x6,x11,x12,x104,x105=>if x105<x104 then(if 0≤x105 then(if x105<(x1.length:Int)then((bits_Mul64.f x6 (rd x1 x105)).bind fun bt151=>((bits_Add64.f bt151.2 x12 0).bind fun bt153=>(if x105<(x0.length:Int)then((bits_Sub64.f (rd x0 x105) bt153.1 x11).bind fun bt156=>(exact_step.l1 k (x0.set (x105:Int).toNat bt156.1) x1 x5 x6 bt156.2 (IntKind.u64.wrap (bt151.1+bt153.2)) x104 (wrap64 (x105+1))))else(none))))else(none))else(none))else(if 0≤x5 then(if x5<(x0.length:Int)then((bits_Sub64.f (rd x0 x5) x12 x11).bind fun bt160=>((some (x0.set (x5:Int).toNat bt160.1:List Int)).bind fun y162=>(if bt160.2=0 then(some (x6,y162))else(exact_step.l2 k y162 x1 x5 x6 0 x5 0))))else(none))else(none))
def exact_step.l2:Nat→List Int→List Int→Int→Int→Int→Int→Int→Option (Int×List Int)
  |0,_,_,_,_,_,_,_=>none
  |k+1,x0,x1,x5,x6,x17,x156,x157=>if x157<x156 then(if 0≤x157 then(if x157<(x0.length:Int)then(if x157<(x1.length:Int)then((bits_Add64.f (rd x0 x157) (rd x1 x157) x17).bind fun bt165=>(exact_step.l2 k (x0.set (x157:Int).toNat bt165.1) x1 x5 x6 bt165.2 x156 (wrap64 (x157+1))))else(none))else(none))else(none))else(if 0≤x5 then(if x5<(x0.length:Int)then(some (IntKind.u64.wrap (x6-1),(x0.set (x5:Int).toNat (IntKind.u64.wrap ((rd x0 x5)+x17)))))else(none))else(none))
def exact_step.l0:Nat→List Int→List Int→Int→Int→Int→Int→Option (Int×List Int)
  |0,_,_,_,_,_,_=>none
  |k+1,x0,x1,x5,x6,x7,x8=>if x8=0 then(if 0≤(wrap64 (x5-2))then(if(wrap64 (x5-2))<(x1.length:Int)then((bits_Mul64.f x6 (rd x1 (wrap64 (x5-2)))).bind fun bt141=>(if bt141.1<x7 then(exact_step.j2 k x0 x1 x5 x6)else(if bt141.1=x7 then(if(wrap64 (x5-2))<(x0.length:Int)then(if bt141.2≤(rd x0 (wrap64 (x5-2)))then(exact_step.j2 k x0 x1 x5 x6)else(if 0≤(wrap64 (x5-1))then(if(wrap64 (x5-1))<(x1.length:Int)then((bits_Add64.f x7 (rd x1 (wrap64 (x5-1))) 0).bind fun bt145=>(exact_step.l0 k x0 x1 x5 (IntKind.u64.wrap (x6-1)) bt145.1 bt145.2))else(none))else(none)))else(none))else(if 0≤(wrap64 (x5-1))then(if(wrap64 (x5-1))<(x1.length:Int)then((bits_Add64.f x7 (rd x1 (wrap64 (x5-1))) 0).bind fun bt148=>(exact_step.l0 k x0 x1 x5 (IntKind.u64.wrap (x6-1)) bt148.1 bt148.2))else(none))else(none)))))else(none))else(none))else(exact_step.j2 k x0 x1 x5 x6)
end
def exact_step.f (k:Nat) (l0:List Int) (l1:List Int):Option (Int×List Int):=if 0≤(l1.length:Int)then(if(l1.length:Int)<(l0.length:Int)then(if 0≤(wrap64 ((l1.length:Int)-1))then(if(wrap64 ((l1.length:Int)-1))<(l1.length:Int)then(if(rd l0 (l1.length:Int))≥(rd l1 (wrap64 ((l1.length:Int)-1)))then(if(wrap64 ((l1.length:Int)-1))<(l0.length:Int)then((bits_Add64.f (rd l0 (wrap64 ((l1.length:Int)-1))) (rd l1 (wrap64 ((l1.length:Int)-1))) 0).bind fun bt133=>(exact_step.j0 k l0 l1 (l1.length:Int) 18446744073709551615 bt133.1 bt133.2))else(none))else(if(wrap64 ((l1.length:Int)-1))<(l0.length:Int)then((bits_Div64.f k (rd l0 (l1.length:Int)) (rd l0 (wrap64 ((l1.length:Int)-1))) (rd l1 (wrap64 ((l1.length:Int)-1)))).bind fun bt138=>(exact_step.j0 k l0 l1 (l1.length:Int) bt138.1 bt138.2 0))else(none)))else(none))else(none))else(none))else(none)
theorem exact_step.U1 {g:Prop} (h:g:=by
  with_reducible repeat' first
  |exact ih0 _ _ _ _ _ _
  |exact ih1 _ _ _ _
  |exact ih2 _ _ _ _ _ _ _ _
  |exact ih3 _ _ _ _ _ _ _
  |exact ih4 _ _ _ _ _ _
  |exact bits_Div64.mono _ _ _ _
  |exact LeO.refl _
  |exact LeO.none _
  |refine LeO.ite ?_ ?_
  |refine LeO.bind ?_ (fun _=>?_)):g:=h
theorem exact_step.mono_l:∀k,(∀y0 y1 y2 y3 y4 y5,LeO (exact_step.j0 k y0 y1 y2 y3 y4 y5) (exact_step.j0 (k+1) y0 y1 y2 y3 y4 y5))∧(∀y0 y1 y2 y3,LeO (exact_step.j2 k y0 y1 y2 y3) (exact_step.j2 (k+1) y0 y1 y2 y3))∧(∀y0 y1 y2 y3 y4 y5 y6 y7,LeO (exact_step.l1 k y0 y1 y2 y3 y4 y5 y6 y7) (exact_step.l1 (k+1) y0 y1 y2 y3 y4 y5 y6 y7))∧(∀y0 y1 y2 y3 y4 y5 y6,LeO (exact_step.l2 k y0 y1 y2 y3 y4 y5 y6) (exact_step.l2 (k+1) y0 y1 y2 y3 y4 y5 y6))∧(∀y0 y1 y2 y3 y4 y5,LeO (exact_step.l0 k y0 y1 y2 y3 y4 y5) (exact_step.l0 (k+1) y0 y1 y2 y3 y4 y5))
  |0=>⟨fun _ _ _ _ _ _ r h=>by simp [exact_step.j0]at h,fun _ _ _ _ r h=>by simp [exact_step.j2]at h,fun _ _ _ _ _ _ _ _ r h=>by simp [exact_step.l1]at h,fun _ _ _ _ _ _ _ r h=>by simp [exact_step.l2]at h,fun _ _ _ _ _ _ r h=>by simp [exact_step.l0]at h⟩
  | k+1=>by
    obtain⟨ih0,ih1,ih2,ih3,ih4⟩:=exact_step.mono_l k
    refine⟨?_,?_,?_,?_,?_⟩
    · intro y0 y1 y2 y3 y4 y5
      unfold exact_step.j0
      exact exact_step.U1
    · intro y0 y1 y2 y3
      unfold exact_step.j2
      exact exact_step.U1
    · intro y0 y1 y2 y3 y4 y5 y6 y7
      unfold exact_step.l1
      exact exact_step.U1
    · intro y0 y1 y2 y3 y4 y5 y6
      unfold exact_step.l2
      exact exact_step.U1
    · intro y0 y1 y2 y3 y4 y5
      unfold exact_step.l0
      exact exact_step.U1
theorem exact_step.mono:∀a0 a1 k,LeO (exact_step.f k a0 a1) (exact_step.f (k+1) a0 a1):=by
  intro a0 a1 k
  obtain⟨ih0,ih1,ih2,ih3,ih4⟩:=exact_step.mono_l k
  unfold exact_step.f
  exact exact_step.U1
def exact_stepAt.f (k:Nat) (l0:List Int) (l1:List Int) (a2:Int) (a3:Int):Option (Int×List Int):=(exact_step.f k ((l0.take a3.toNat).drop a2.toNat) l1).bind fun bt=>(some (bt.1,l0.take a2.toNat++bt.2++l0.drop a3.toNat))
theorem exact_stepAt.mono:∀a0 a1 a2 a3 k,LeO (exact_stepAt.f k a0 a1 a2 a3) (exact_stepAt.f (k+1) a0 a1 a2 a3):=fun a0 a1 a2 a3 k=>LeO.bind (exact_step.mono _ _ _) (fun _=>LeO.refl _)
mutual
def exact_divide.l0:Nat→List Int→List Int→List Int→Int→Int→Option (List Int×List Int)
  |0,_,_,_,_,_=>none
  |k+1,x0,x1,x6,x7,x8=>if x8≥0 then(if 0≤x8 then(if x8<(x0.length:Int)then(if 0<(x1.length:Int)then((bits_Div64.f k x7 (rd x0 x8) (rd x1 0)).bind fun bt176=>(if x8<(x6.length:Int)then(exact_divide.l0 k x0 x1 (x6.set (x8:Int).toNat bt176.1) bt176.2 (wrap64 (x8-1)))else(none)))else(none))else(none))else(none))else((exact_trim.f k x6).bind fun t179=>((exact_trim.f k (([x7]:List Int))).bind fun t185=>(some (t179,t185))))
def exact_divide.l1:Nat→Int→List Int→List Int→Int→List Int→Int→Option (List Int×List Int)
  |0,_,_,_,_,_,_=>none
  |k+1,x9,x10,x11,x12,x13,x14=>if x14≥0 then(if 0≤x14 then(if x14≤(wrap64 ((wrap64 (x14+x12))+1))then(if(wrap64 ((wrap64 (x14+x12))+1))≤(x11.length:Int)then((exact_stepAt.f k x11 x10 x14 (wrap64 ((wrap64 (x14+x12))+1))).bind fun bt206=>(if x14<(x13.length:Int)then(exact_divide.l1 k x9 x10 bt206.2 x12 (x13.set (x14:Int).toNat bt206.1) (wrap64 (x14-1)))else(none)))else(none))else(none))else(none))else(exact_divide.l2 k x9 x11 x12 x13 x12 0)
def exact_divide.l2:Nat→Int→List Int→Int→List Int→Int→Int→Option (List Int×List Int)
  |0,_,_,_,_,_,_=>none
  |k+1,x9,x11,x12,x13,x96,x97=>if x97<x96 then(if 0≤x97 then(if x97<(x11.length:Int)then(if 0≤x9 then((some (x11.set (x97:Int).toNat (shr .u64 (rd x11 x97) x9):List Int)).bind fun y210=>(if x9>0 then(if(wrap64 (x97+1))<(x11.length:Int)then(if 0≤(wrap64 (x97+1))then(if 0≤(wrap64 (64-x9))then(exact_divide.l2 k x9 (y210.set (x97:Int).toNat (Go.bits .or .u64 (rd y210 x97) (shl .u64 (rd y210 (wrap64 (x97+1))) (wrap64 (64-x9))))) x12 x13 x96 (wrap64 (x97+1)))else(none))else(none))else(exact_divide.l2 k x9 y210 x12 x13 x96 (wrap64 (x97+1))))else(exact_divide.l2 k x9 y210 x12 x13 x96 (wrap64 (x97+1)))))else(none))else(none))else(none))else((exact_trim.f k x13).bind fun t214=>(if 0≤x12 then(if x12≤(x11.length:Int)then((exact_trim.f k (x11.take (x12:Int).toNat)).bind fun t220=>(some (t214,t220)))else(none))else(none)))
end
def exact_divide.f (k:Nat) (l0:List Int) (l1:List Int):Option (List Int×List Int):=(exact_compareWords.f k l0 l1).bind fun t170=>(if t170<0 then(some (([]:List Int),l0))else(if(l1.length:Int)=1 then(if 0≤(l0.length:Int)then(if((l0.length:Int):Int).toNat≤35184372088832 then(exact_divide.l0 k l0 l1 (List.replicate ((l0.length:Int):Int).toNat 0) 0 (wrap64 ((l0.length:Int)-1)))else(none))else(none))else(if 0≤(wrap64 ((l1.length:Int)-1))then(if(wrap64 ((l1.length:Int)-1))<(l1.length:Int)then((bits_LeadingZeros64.f (rd l1 (wrap64 ((l1.length:Int)-1)))).bind fun t189=>((exact_shiftUp.f k l1 t189).bind fun t190=>((exact_trim.f k t190).bind fun t193=>((exact_shiftUp.f k l0 t189).bind fun t196=>(if 0≤(wrap64 ((wrap64 ((l0.length:Int)-(t193.length:Int)))+1))then(if(wrap64 ((wrap64 ((l0.length:Int)-(t193.length:Int)))+1):Int).toNat≤35184372088832 then(exact_divide.l1 k t189 t193 t196 (t193.length:Int) (List.replicate (wrap64 ((wrap64 ((l0.length:Int)-(t193.length:Int)))+1):Int).toNat 0) (wrap64 ((l0.length:Int)-(t193.length:Int))))else(none))else(none))))))else(none))else(none))))
theorem exact_divide.U1 {g:Prop} (h:g:=by
  with_reducible repeat' first
  |exact ih0 _ _ _ _ _
  |exact ih1 _ _ _ _ _ _
  |exact ih2 _ _ _ _ _ _
  |exact bits_Div64.mono _ _ _ _
  |exact exact_compareWords.mono _ _ _
  |exact exact_shiftUp.mono _ _ _
  |exact exact_step.mono _ _ _
  |exact exact_stepAt.mono _ _ _ _ _
  |exact exact_trim.mono _ _
  |exact LeO.refl _
  |exact LeO.none _
  |refine LeO.ite ?_ ?_
  |refine LeO.bind ?_ (fun _=>?_)):g:=h
theorem exact_divide.mono_l:∀k,(∀y0 y1 y2 y3 y4,LeO (exact_divide.l0 k y0 y1 y2 y3 y4) (exact_divide.l0 (k+1) y0 y1 y2 y3 y4))∧(∀y0 y1 y2 y3 y4 y5,LeO (exact_divide.l1 k y0 y1 y2 y3 y4 y5) (exact_divide.l1 (k+1) y0 y1 y2 y3 y4 y5))∧(∀y0 y1 y2 y3 y4 y5,LeO (exact_divide.l2 k y0 y1 y2 y3 y4 y5) (exact_divide.l2 (k+1) y0 y1 y2 y3 y4 y5))
  |0=>⟨fun _ _ _ _ _ r h=>by simp [exact_divide.l0]at h,fun _ _ _ _ _ _ r h=>by simp [exact_divide.l1]at h,fun _ _ _ _ _ _ r h=>by simp [exact_divide.l2]at h⟩
  | k+1=>by
    obtain⟨ih0,ih1,ih2⟩:=exact_divide.mono_l k
    refine⟨?_,?_,?_⟩
    · intro y0 y1 y2 y3 y4
      unfold exact_divide.l0
      exact exact_divide.U1
    · intro y0 y1 y2 y3 y4 y5
      unfold exact_divide.l1
      exact exact_divide.U1
    · intro y0 y1 y2 y3 y4 y5
      unfold exact_divide.l2
      exact exact_divide.U1
theorem exact_divide.mono:∀a0 a1 k,LeO (exact_divide.f k a0 a1) (exact_divide.f (k+1) a0 a1):=by
  intro a0 a1 k
  obtain⟨ih0,ih1,ih2⟩:=exact_divide.mono_l k
  unfold exact_divide.f
  exact exact_divide.U1
def exact_words.l0:Nat→ByteArray→List Int→Int→Int→Option (List Int)
  |0,_,_,_,_=>none
  |k+1,x0,x3,x12,x13=>if x13<x12 then(if 0≤(wrap64 (Int.tdiv (wrap64 ((wrap64 ((x0.size:Int)-1))-x13)) 8))then(if(wrap64 (Int.tdiv (wrap64 ((wrap64 ((x0.size:Int)-1))-x13)) 8))<(x3.length:Int)then(if 0≤x13 then(if x13<(x0.size:Int)then(if 0≤(wrap64 (8*(Int.tmod (wrap64 ((wrap64 ((x0.size:Int)-1))-x13)) 8)))then(exact_words.l0 k x0 (x3.set ((wrap64 (Int.tdiv (wrap64 ((wrap64 ((x0.size:Int)-1))-x13)) 8)):Int).toNat (Go.bits .or .u64 (rd x3 (wrap64 (Int.tdiv (wrap64 ((wrap64 ((x0.size:Int)-1))-x13)) 8))) (shl .u64 (IntKind.u64.wrap (bt x0 x13)) (wrap64 (8*(Int.tmod (wrap64 ((wrap64 ((x0.size:Int)-1))-x13)) 8)))))) x12 (wrap64 (x13+1)))else(none))else(none))else(none))else(none))else(none))else((exact_trim.f k x3).bind fun t228=>(some t228))
def exact_words.f (k:Nat) (a0:ByteArray):Option (List Int):=if 0≤(wrap64 (Int.tdiv (wrap64 ((a0.size:Int)+7)) 8))then(if(wrap64 (Int.tdiv (wrap64 ((a0.size:Int)+7)) 8):Int).toNat≤35184372088832 then(exact_words.l0 k a0 (List.replicate (wrap64 (Int.tdiv (wrap64 ((a0.size:Int)+7)) 8):Int).toNat 0) (a0.size:Int) 0)else(none))else(none)
theorem exact_words.U1 {g:Prop} (h:g:=by
  with_reducible repeat' first
  |exact ih0 _ _ _ _
  |exact exact_trim.mono _ _
  |exact LeO.refl _
  |exact LeO.none _
  |refine LeO.ite ?_ ?_
  |refine LeO.bind ?_ (fun _=>?_)):g:=h
theorem exact_words.mono_l:∀k,(∀y0 y1 y2 y3,LeO (exact_words.l0 k y0 y1 y2 y3) (exact_words.l0 (k+1) y0 y1 y2 y3))
  |0=>fun _ _ _ _ r h=>by simp [exact_words.l0]at h
  | k+1=>by
    have ih0:=exact_words.mono_l k
    · intro y0 y1 y2 y3
      unfold exact_words.l0
      exact exact_words.U1
theorem exact_words.mono:∀a0 k,LeO (exact_words.f k a0) (exact_words.f (k+1) a0):=by
  intro a0 k
  have ih0:=exact_words.mono_l k
  unfold exact_words.f
  exact exact_words.U1
mutual
def exact_pack.l0:Nat→List Int→List Int→Int→Int→Option (ByteArray)
  |0,_,_,_,_=>none
  |k+1,x3,x17,x18,x19=>if x19<x18 then(if 0≤x19 then(if x19<(x17.length:Int)then(exact_pack.l1 k x3 x19 (rd x17 x19) x17 x18 x19 0)else(none))else(none))else(exact_pack.l2 k x3 0)
def exact_pack.l1:Nat→List Int→Int→Int→List Int→Int→Int→Int→Option (ByteArray)
  |0,_,_,_,_,_,_,_=>none
  |k+1,x3,x4,x5,x17,x18,x19,x24=>if x24<8 then(if 0≤(wrap64 (8*x24))then(if 0≤(wrap64 ((wrap64 ((wrap64 ((x3.length:Int)-1))-(wrap64 (8*x4))))-x24))then(if(wrap64 ((wrap64 ((wrap64 ((x3.length:Int)-1))-(wrap64 (8*x4))))-x24))<(x3.length:Int)then(exact_pack.l1 k (x3.set ((wrap64 ((wrap64 ((wrap64 ((x3.length:Int)-1))-(wrap64 (8*x4))))-x24)):Int).toNat ((shr .u64 x5 (wrap64 (8*x24)))%256)) x4 x5 x17 x18 x19 (wrap64 (x24+1)))else(none))else(none))else(none))else(exact_pack.l0 k x3 x17 x18 (wrap64 (x19+1)))
def exact_pack.l2:Nat→List Int→Int→Option (ByteArray)
  |0,_,_=>none
  |k+1,x3,x7=>if 0≤x7 then(if x7<(x3.length:Int)then(if(rd x3 x7)=0 then(exact_pack.l2 k x3 (wrap64 (x7+1)))else(if x7≤(x3.length:Int)then(some (strOfNums (x3.drop (x7:Int).toNat)))else(none)))else(none))else(none)
end
def exact_pack.f (k:Nat) (l0:List Int):Option (ByteArray):=(exact_trim.f k l0).bind fun t231=>(if(t231.length:Int)=0 then(some (⟨#[]⟩:ByteArray))else(if 0≤(wrap64 (8*(t231.length:Int)))then(if(wrap64 (8*(t231.length:Int)):Int).toNat≤281474976710656 then(exact_pack.l0 k (List.replicate (wrap64 (8*(t231.length:Int)):Int).toNat 0) t231 (t231.length:Int) 0)else(none))else(none)))
theorem exact_pack.U1 {g:Prop} (h:g:=by
  with_reducible repeat' first
  |exact ih0 _ _ _ _
  |exact ih1 _ _ _ _ _ _ _
  |exact ih2 _ _
  |exact exact_trim.mono _ _
  |exact LeO.refl _
  |exact LeO.none _
  |refine LeO.ite ?_ ?_
  |refine LeO.bind ?_ (fun _=>?_)):g:=h
theorem exact_pack.mono_l:∀k,(∀y0 y1 y2 y3,LeO (exact_pack.l0 k y0 y1 y2 y3) (exact_pack.l0 (k+1) y0 y1 y2 y3))∧(∀y0 y1 y2 y3 y4 y5 y6,LeO (exact_pack.l1 k y0 y1 y2 y3 y4 y5 y6) (exact_pack.l1 (k+1) y0 y1 y2 y3 y4 y5 y6))∧(∀y0 y1,LeO (exact_pack.l2 k y0 y1) (exact_pack.l2 (k+1) y0 y1))
  |0=>⟨fun _ _ _ _ r h=>by simp [exact_pack.l0]at h,fun _ _ _ _ _ _ _ r h=>by simp [exact_pack.l1]at h,fun _ _ r h=>by simp [exact_pack.l2]at h⟩
  | k+1=>by
    obtain⟨ih0,ih1,ih2⟩:=exact_pack.mono_l k
    refine⟨?_,?_,?_⟩
    · intro y0 y1 y2 y3
      unfold exact_pack.l0
      exact exact_pack.U1
    · intro y0 y1 y2 y3 y4 y5 y6
      unfold exact_pack.l1
      exact exact_pack.U1
    · intro y0 y1
      unfold exact_pack.l2
      exact exact_pack.U1
theorem exact_pack.mono:∀a0 k,LeO (exact_pack.f k a0) (exact_pack.f (k+1) a0):=by
  intro a0 k
  obtain⟨ih0,ih1,ih2⟩:=exact_pack.mono_l k
  unfold exact_pack.f
  exact exact_pack.U1
def exact_NatDivMod.f (k:Nat) (a0:ByteArray) (a1:ByteArray):Option (ByteArray×ByteArray):=(exact_words.f k a0).bind fun t244=>((exact_words.f k a1).bind fun t247=>((exact_divide.f k t244 t247).bind fun bt250=>((exact_pack.f k bt250.1).bind fun t256=>((exact_pack.f k bt250.2).bind fun t257=>(some (t256,t257))))))
theorem exact_NatDivMod.mono:∀a0 a1 k,LeO (exact_NatDivMod.f k a0 a1) (exact_NatDivMod.f (k+1) a0 a1):=by
  intro a0 a1 k
  unfold exact_NatDivMod.f
  with_reducible repeat' first
      |exact exact_divide.mono _ _ _
      |exact exact_pack.mono _ _
      |exact exact_words.mono _ _
      |exact LeO.refl _
      |exact LeO.none _
      |refine LeO.ite ?_ ?_
      |refine LeO.bind ?_ (fun _=>?_)
mutual
def exact_NatAdd.j0:Nat→List Int→List Int→Option (ByteArray)
  |0,_,_=>none
  |k+1,x5,x6=>if 0≤(wrap64 ((x5.length:Int)+1))then(if(wrap64 ((x5.length:Int)+1):Int).toNat≤35184372088832 then(exact_NatAdd.l0 k x5 x6 (List.replicate (wrap64 ((x5.length:Int)+1):Int).toNat 0) 0 (x5.length:Int) 0)else(none))else(none)
def exact_NatAdd.l0:Nat→List Int→List Int→List Int→Int→Int→Int→Option (ByteArray)
  |0,_,_,_,_,_,_=>none
  |k+1,x5,x6,x7,x8,x27,x28=>if x28<x27 then(if x28<(x6.length:Int)then(if 0≤x28 then(if x28<(x5.length:Int)then((bits_Add64.f (rd x5 x28) (rd x6 x28) x8).bind fun bt269=>(if x28<(x7.length:Int)then(exact_NatAdd.l0 k x5 x6 (x7.set (x28:Int).toNat bt269.1) bt269.2 x27 (wrap64 (x28+1)))else(none)))else(none))else(none))else(if 0≤x28 then(if x28<(x5.length:Int)then((bits_Add64.f (rd x5 x28) 0 x8).bind fun bt273=>(if x28<(x7.length:Int)then(exact_NatAdd.l0 k x5 x6 (x7.set (x28:Int).toNat bt273.1) bt273.2 x27 (wrap64 (x28+1)))else(none)))else(none))else(none)))else(if 0≤(x5.length:Int)then(if(x5.length:Int)<(x7.length:Int)then((exact_pack.f k (x7.set ((x5.length:Int):Int).toNat x8)).bind fun t277=>(some t277))else(none))else(none))
end
def exact_NatAdd.f (k:Nat) (a0:ByteArray) (a1:ByteArray):Option (ByteArray):=(exact_words.f k a0).bind fun t258=>((exact_words.f k a1).bind fun t261=>(if(t258.length:Int)<(t261.length:Int)then(exact_NatAdd.j0 k t261 t258)else(exact_NatAdd.j0 k t258 t261)))
theorem exact_NatAdd.U1 {g:Prop} (h:g:=by
  with_reducible repeat' first
  |exact ih0 _ _
  |exact ih1 _ _ _ _ _ _
  |exact exact_pack.mono _ _
  |exact exact_words.mono _ _
  |exact LeO.refl _
  |exact LeO.none _
  |refine LeO.ite ?_ ?_
  |refine LeO.bind ?_ (fun _=>?_)):g:=h
theorem exact_NatAdd.mono_l:∀k,(∀y0 y1,LeO (exact_NatAdd.j0 k y0 y1) (exact_NatAdd.j0 (k+1) y0 y1))∧(∀y0 y1 y2 y3 y4 y5,LeO (exact_NatAdd.l0 k y0 y1 y2 y3 y4 y5) (exact_NatAdd.l0 (k+1) y0 y1 y2 y3 y4 y5))
  |0=>⟨fun _ _ r h=>by simp [exact_NatAdd.j0]at h,fun _ _ _ _ _ _ r h=>by simp [exact_NatAdd.l0]at h⟩
  | k+1=>by
    obtain⟨ih0,ih1⟩:=exact_NatAdd.mono_l k
    refine⟨?_,?_⟩
    · intro y0 y1
      unfold exact_NatAdd.j0
      exact exact_NatAdd.U1
    · intro y0 y1 y2 y3 y4 y5
      unfold exact_NatAdd.l0
      exact exact_NatAdd.U1
theorem exact_NatAdd.mono:∀a0 a1 k,LeO (exact_NatAdd.f k a0 a1) (exact_NatAdd.f (k+1) a0 a1):=by
  intro a0 a1 k
  obtain⟨ih0,ih1⟩:=exact_NatAdd.mono_l k
  unfold exact_NatAdd.f
  exact exact_NatAdd.U1
def exact_NatOf.f (k:Nat) (a0:Int):Option (ByteArray):=(exact_pack.f k (([a0]:List Int))).bind fun t281=>(some t281)
theorem exact_NatOf.mono:∀a0 k,LeO (exact_NatOf.f k a0) (exact_NatOf.f (k+1) a0):=by
  intro a0 k
  unfold exact_NatOf.f
  with_reducible repeat' first
      |exact exact_pack.mono _ _
      |exact LeO.refl _
      |exact LeO.none _
      |refine LeO.ite ?_ ?_
      |refine LeO.bind ?_ (fun _=>?_)
def exact_NatSub.l0:Nat→List Int→List Int→Int→Int→Int→Option (ByteArray)
  |0,_,_,_,_,_=>none
  |k+1,x5,x6,x7,x15,x16=>if x16<x15 then(if x16<(x6.length:Int)then(if 0≤x16 then(if x16<(x5.length:Int)then((bits_Sub64.f (rd x5 x16) (rd x6 x16) x7).bind fun bt290=>(exact_NatSub.l0 k (x5.set (x16:Int).toNat bt290.1) x6 bt290.2 x15 (wrap64 (x16+1))))else(none))else(none))else(if 0≤x16 then(if x16<(x5.length:Int)then((bits_Sub64.f (rd x5 x16) 0 x7).bind fun bt294=>(exact_NatSub.l0 k (x5.set (x16:Int).toNat bt294.1) x6 bt294.2 x15 (wrap64 (x16+1))))else(none))else(none)))else((exact_pack.f k x5).bind fun t297=>(some t297))
def exact_NatSub.f (k:Nat) (a0:ByteArray) (a1:ByteArray):Option (ByteArray):=(exact_words.f k a0).bind fun t282=>((exact_words.f k a1).bind fun t285=>(exact_NatSub.l0 k t282 t285 0 (t282.length:Int) 0))
theorem exact_NatSub.U1 {g:Prop} (h:g:=by
  with_reducible repeat' first
  |exact ih0 _ _ _ _ _
  |exact exact_pack.mono _ _
  |exact exact_words.mono _ _
  |exact LeO.refl _
  |exact LeO.none _
  |refine LeO.ite ?_ ?_
  |refine LeO.bind ?_ (fun _=>?_)):g:=h
theorem exact_NatSub.mono_l:∀k,(∀y0 y1 y2 y3 y4,LeO (exact_NatSub.l0 k y0 y1 y2 y3 y4) (exact_NatSub.l0 (k+1) y0 y1 y2 y3 y4))
  |0=>fun _ _ _ _ _ r h=>by simp [exact_NatSub.l0]at h
  | k+1=>by
    have ih0:=exact_NatSub.mono_l k
    · intro y0 y1 y2 y3 y4
      unfold exact_NatSub.l0
      exact exact_NatSub.U1
theorem exact_NatSub.mono:∀a0 a1 k,LeO (exact_NatSub.f k a0 a1) (exact_NatSub.f (k+1) a0 a1):=by
  intro a0 a1 k
  have ih0:=exact_NatSub.mono_l k
  unfold exact_NatSub.f
  exact exact_NatSub.U1
def exact_IntMake.f (a0:Bool) (a1:ByteArray):Option (Bool×ByteArray):=if a0=true then(some ((!a1.toList.isEmpty),a1))else(some (false,a1))
def exact_IntDivMod.j0:Nat→ByteArray→ByteArray→Bool→Bool→ByteArray→Bool→ByteArray→Option (Bool×ByteArray×Bool×ByteArray)
  |0,_,_,_,_,_,_,_=>none
  |k+1,x6,x7,x21,x300000,x300001,x301000,x301001=>if x21=true then((exact_NatOf.f k 1).bind fun t305=>((exact_NatAdd.f k x6 t305).bind fun t306=>((exact_NatSub.f k x301001 x7).bind fun t307=>((exact_IntMake.f (x300000 !=x301000) t306).bind fun bt308=>(some (bt308.1,bt308.2,false,t307))))))else((exact_IntMake.f (x300000 !=x301000) x6).bind fun bt310=>(some (bt310.1,bt310.2,false,x7)))
def exact_IntDivMod.f (k:Nat) (a0_0:Bool) (a0_1:ByteArray) (a1_0:Bool) (a1_1:ByteArray):Option (Bool×ByteArray×Bool×ByteArray):=(exact_NatDivMod.f k a0_1 a1_1).bind fun bt303=>(if a0_0=true then(exact_IntDivMod.j0 k bt303.1 bt303.2 (!bt303.2.toList.isEmpty) a0_0 a0_1 a1_0 a1_1)else(exact_IntDivMod.j0 k bt303.1 bt303.2 false a0_0 a0_1 a1_0 a1_1))
theorem exact_IntDivMod.U1 {g:Prop} (h:g:=by
  with_reducible repeat' first
  |exact ih0 _ _ _ _ _ _ _
  |exact exact_NatAdd.mono _ _ _
  |exact exact_NatDivMod.mono _ _ _
  |exact exact_NatOf.mono _ _
  |exact exact_NatSub.mono _ _ _
  |exact LeO.refl _
  |exact LeO.none _
  |refine LeO.ite ?_ ?_
  |refine LeO.bind ?_ (fun _=>?_)):g:=h
theorem exact_IntDivMod.mono_l:∀k,(∀y0 y1 y2 y3 y4 y5 y6,LeO (exact_IntDivMod.j0 k y0 y1 y2 y3 y4 y5 y6) (exact_IntDivMod.j0 (k+1) y0 y1 y2 y3 y4 y5 y6))
  |0=>fun _ _ _ _ _ _ _ r h=>by simp [exact_IntDivMod.j0]at h
  | k+1=>by
    have ih0:=exact_IntDivMod.mono_l k
    · intro y0 y1 y2 y3 y4 y5 y6
      unfold exact_IntDivMod.j0
      exact exact_IntDivMod.U1
theorem exact_IntDivMod.mono:∀a0 a1 a2 a3 k,LeO (exact_IntDivMod.f k a0 a1 a2 a3) (exact_IntDivMod.f (k+1) a0 a1 a2 a3):=by
  intro a0 a1 a2 a3 k
  have ih0:=exact_IntDivMod.mono_l k
  unfold exact_IntDivMod.f
  exact exact_IntDivMod.U1
def exact_NatGcd.l0:Nat→List Int→List Int→Option (ByteArray)
  |0,_,_=>none
  |k+1,x5,x6=>if(x6.length:Int)>0 then((exact_divide.f k x5 x6).bind fun bt318=>(exact_NatGcd.l0 k x6 bt318.2))else((exact_pack.f k x5).bind fun t324=>(some t324))
def exact_NatGcd.f (k:Nat) (a0:ByteArray) (a1:ByteArray):Option (ByteArray):=(exact_words.f k a0).bind fun t312=>((exact_words.f k a1).bind fun t315=>(exact_NatGcd.l0 k t312 t315))
theorem exact_NatGcd.U1 {g:Prop} (h:g:=by
  with_reducible repeat' first
  |exact ih0 _ _
  |exact exact_divide.mono _ _ _
  |exact exact_pack.mono _ _
  |exact exact_words.mono _ _
  |exact LeO.refl _
  |exact LeO.none _
  |refine LeO.ite ?_ ?_
  |refine LeO.bind ?_ (fun _=>?_)):g:=h
theorem exact_NatGcd.mono_l:∀k,(∀y0 y1,LeO (exact_NatGcd.l0 k y0 y1) (exact_NatGcd.l0 (k+1) y0 y1))
  |0=>fun _ _ r h=>by simp [exact_NatGcd.l0]at h
  | k+1=>by
    have ih0:=exact_NatGcd.mono_l k
    · intro y0 y1
      unfold exact_NatGcd.l0
      exact exact_NatGcd.U1
theorem exact_NatGcd.mono:∀a0 a1 k,LeO (exact_NatGcd.f k a0 a1) (exact_NatGcd.f (k+1) a0 a1):=by
  intro a0 a1 k
  have ih0:=exact_NatGcd.mono_l k
  unfold exact_NatGcd.f
  exact exact_NatGcd.U1
def exact_IntOf.f (k:Nat) (a0:Int):Option (Bool×ByteArray):=if a0<0 then((exact_NatOf.f k (IntKind.u64.wrap (-(IntKind.u64.wrap (a0))))).bind fun t330=>(some (true,t330)))else((exact_NatOf.f k (IntKind.u64.wrap (a0))).bind fun t331=>(some (false,t331)))
theorem exact_IntOf.mono:∀a0 k,LeO (exact_IntOf.f k a0) (exact_IntOf.f (k+1) a0):=by
  intro a0 k
  unfold exact_IntOf.f
  with_reducible repeat' first
      |exact exact_NatOf.mono _ _
      |exact LeO.refl _
      |exact LeO.none _
      |refine LeO.ite ?_ ?_
      |refine LeO.bind ?_ (fun _=>?_)
mutual
def galoisref01_pack.l0:Nat→List Int→List Int→Int→Option (ByteArray)
  |0,_,_,_=>none
  |k+1,x0,x3,x4=>if x4≥0 then(galoisref01_pack.l1 k x0 x3 x4 24)else(some (strOfNums x3))
def galoisref01_pack.l1:Nat→List Int→List Int→Int→Int→Option (ByteArray)
  |0,_,_,_,_=>none
  |k+1,x0,x3,x4,x5=>if x5≥0 then(if 0≤x4 then(if x4<(x0.length:Int)then(if 0≤x5 then(if(x3.length:Int)>0 then(if x3.length<140737488355328 then(galoisref01_pack.l1 k x0 (x3++[(shr .u64 (rd x0 x4) x5)%256]) x4 (wrap64 (x5-8)))else(none))else(if((shr .u64 (rd x0 x4) x5)%256)>0 then(if x3.length<140737488355328 then(galoisref01_pack.l1 k x0 (x3++[(shr .u64 (rd x0 x4) x5)%256]) x4 (wrap64 (x5-8)))else(none))else(galoisref01_pack.l1 k x0 x3 x4 (wrap64 (x5-8)))))else(none))else(none))else(none))else(galoisref01_pack.l0 k x0 x3 (wrap64 (x4-1)))
end
def galoisref01_pack.f (k:Nat) (l0:List Int):Option (ByteArray):=galoisref01_pack.l0 k l0 ([]:List Int) (wrap64 ((l0.length:Int)-1))
theorem galoisref01_pack.U1 {g:Prop} (h:g:=by
  with_reducible repeat' first
  |exact ih0 _ _ _
  |exact ih1 _ _ _ _
  |exact LeO.refl _
  |exact LeO.none _
  |refine LeO.ite ?_ ?_
  |refine LeO.bind ?_ (fun _=>?_)):g:=h
theorem galoisref01_pack.mono_l:∀k,(∀y0 y1 y2,LeO (galoisref01_pack.l0 k y0 y1 y2) (galoisref01_pack.l0 (k+1) y0 y1 y2))∧(∀y0 y1 y2 y3,LeO (galoisref01_pack.l1 k y0 y1 y2 y3) (galoisref01_pack.l1 (k+1) y0 y1 y2 y3))
  |0=>⟨fun _ _ _ r h=>by simp [galoisref01_pack.l0]at h,fun _ _ _ _ r h=>by simp [galoisref01_pack.l1]at h⟩
  | k+1=>by
    obtain⟨ih0,ih1⟩:=galoisref01_pack.mono_l k
    refine⟨?_,?_⟩
    · intro y0 y1 y2
      unfold galoisref01_pack.l0
      exact galoisref01_pack.U1
    · intro y0 y1 y2 y3
      unfold galoisref01_pack.l1
      exact galoisref01_pack.U1
theorem galoisref01_pack.mono:∀a0 k,LeO (galoisref01_pack.f k a0) (galoisref01_pack.f (k+1) a0):=by
  intro a0 k
  obtain⟨ih0,ih1⟩:=galoisref01_pack.mono_l k
  unfold galoisref01_pack.f
  exact galoisref01_pack.U1
def galoisref01_Of.f (k:Nat) (a0:Int):Option (ByteArray):=(galoisref01_pack.f k (([Go.bits .and .u64 a0 4294967295,a0/4294967296]:List Int))).bind fun t345=>(some t345)
theorem galoisref01_Of.mono:∀a0 k,LeO (galoisref01_Of.f k a0) (galoisref01_Of.f (k+1) a0):=by
  intro a0 k
  unfold galoisref01_Of.f
  with_reducible repeat' first
      |exact galoisref01_pack.mono _ _
      |exact LeO.refl _
      |exact LeO.none _
      |refine LeO.ite ?_ ?_
      |refine LeO.bind ?_ (fun _=>?_)
def galoisref02_FromInt.f (k:Nat) (a0:Int):Option (Bool×ByteArray):=if a0<0 then((galoisref01_Of.f k (IntKind.u64.wrap ((IntKind.u64.wrap (wrap64 (-(wrap64 (a0+1)))))+1))).bind fun t347=>(some (true,t347)))else((galoisref01_Of.f k (IntKind.u64.wrap (a0))).bind fun t348=>(some (false,t348)))
theorem galoisref02_FromInt.mono:∀a0 k,LeO (galoisref02_FromInt.f k a0) (galoisref02_FromInt.f (k+1) a0):=by
  intro a0 k
  unfold galoisref02_FromInt.f
  with_reducible repeat' first
      |exact galoisref01_Of.mono _ _
      |exact LeO.refl _
      |exact LeO.none _
      |refine LeO.ite ?_ ?_
      |refine LeO.bind ?_ (fun _=>?_)
mutual
def exact_mulWords.l0:Nat→List Int→List Int→List Int→Int→Int→Option (List Int)
  |0,_,_,_,_,_=>none
  |k+1,x1,x5,x20,x21,x22=>if x22<x21 then(if 0≤x22 then(if x22<(x20.length:Int)then(exact_mulWords.l1 k x1 x5 x22 (rd x20 x22) 0 x20 x21 x22 x1 (x1.length:Int) 0)else(none))else(none))else((exact_trim.f k x5).bind fun t355=>(some t355))
def exact_mulWords.l1:Nat→List Int→List Int→Int→Int→Int→List Int→Int→Int→List Int→Int→Int→Option (List Int)
  |0,_,_,_,_,_,_,_,_,_,_,_=>none
  |k+1,x1,x5,x6,x7,x8,x20,x21,x22,x27,x28,x29=>if x29<x28 then(if 0≤x29 then(if x29<(x27.length:Int)then((bits_Mul64.f x7 (rd x27 x29)).bind fun bt360=>(if 0≤(wrap64 (x6+x29))then(if(wrap64 (x6+x29))<(x5.length:Int)then((bits_Add64.f bt360.2 (rd x5 (wrap64 (x6+x29))) 0).bind fun bt363=>((bits_Add64.f bt363.1 x8 0).bind fun bt365=>(exact_mulWords.l1 k x1 (x5.set ((wrap64 (x6+x29)):Int).toNat bt365.1) x6 x7 (IntKind.u64.wrap ((IntKind.u64.wrap (bt360.1+bt363.2))+bt365.2)) x20 x21 x22 x27 x28 (wrap64 (x29+1)))))else(none))else(none)))else(none))else(none))else(if 0≤(wrap64 (x6+(x1.length:Int)))then(if(wrap64 (x6+(x1.length:Int)))<(x5.length:Int)then(exact_mulWords.l0 k x1 (x5.set ((wrap64 (x6+(x1.length:Int))):Int).toNat x8) x20 x21 (wrap64 (x22+1)))else(none))else(none))
end
def exact_mulWords.f (k:Nat) (l0:List Int) (l1:List Int):Option (List Int):=if 0≤(wrap64 ((l0.length:Int)+(l1.length:Int)))then(if(wrap64 ((l0.length:Int)+(l1.length:Int)):Int).toNat≤35184372088832 then(exact_mulWords.l0 k l1 (List.replicate (wrap64 ((l0.length:Int)+(l1.length:Int)):Int).toNat 0) l0 (l0.length:Int) 0)else(none))else(none)
theorem exact_mulWords.U1 {g:Prop} (h:g:=by
  with_reducible repeat' first
  |exact ih0 _ _ _ _ _
  |exact ih1 _ _ _ _ _ _ _ _ _ _ _
  |exact exact_trim.mono _ _
  |exact LeO.refl _
  |exact LeO.none _
  |refine LeO.ite ?_ ?_
  |refine LeO.bind ?_ (fun _=>?_)):g:=h
theorem exact_mulWords.mono_l:∀k,(∀y0 y1 y2 y3 y4,LeO (exact_mulWords.l0 k y0 y1 y2 y3 y4) (exact_mulWords.l0 (k+1) y0 y1 y2 y3 y4))∧(∀y0 y1 y2 y3 y4 y5 y6 y7 y8 y9 y10,LeO (exact_mulWords.l1 k y0 y1 y2 y3 y4 y5 y6 y7 y8 y9 y10) (exact_mulWords.l1 (k+1) y0 y1 y2 y3 y4 y5 y6 y7 y8 y9 y10))
  |0=>⟨fun _ _ _ _ _ r h=>by simp [exact_mulWords.l0]at h,fun _ _ _ _ _ _ _ _ _ _ _ r h=>by simp [exact_mulWords.l1]at h⟩
  | k+1=>by
    obtain⟨ih0,ih1⟩:=exact_mulWords.mono_l k
    refine⟨?_,?_⟩
    · intro y0 y1 y2 y3 y4
      unfold exact_mulWords.l0
      exact exact_mulWords.U1
    · intro y0 y1 y2 y3 y4 y5 y6 y7 y8 y9 y10
      unfold exact_mulWords.l1
      exact exact_mulWords.U1
theorem exact_mulWords.mono:∀a0 a1 k,LeO (exact_mulWords.f k a0 a1) (exact_mulWords.f (k+1) a0 a1):=by
  intro a0 a1 k
  obtain⟨ih0,ih1⟩:=exact_mulWords.mono_l k
  unfold exact_mulWords.f
  exact exact_mulWords.U1
def exact_NatMul.f (k:Nat) (a0:ByteArray) (a1:ByteArray):Option (ByteArray):=(exact_words.f k a0).bind fun t369=>((exact_words.f k a1).bind fun t372=>((exact_mulWords.f k t369 t372).bind fun t375=>((exact_pack.f k t375).bind fun t378=>(some t378))))
theorem exact_NatMul.mono:∀a0 a1 k,LeO (exact_NatMul.f k a0 a1) (exact_NatMul.f (k+1) a0 a1):=by
  intro a0 a1 k
  unfold exact_NatMul.f
  with_reducible repeat' first
      |exact exact_mulWords.mono _ _ _
      |exact exact_pack.mono _ _
      |exact exact_words.mono _ _
      |exact LeO.refl _
      |exact LeO.none _
      |refine LeO.ite ?_ ?_
      |refine LeO.bind ?_ (fun _=>?_)
def bits_Len8.f (a0:Int):Option (Int):=if 0≤a0∧a0≤255 then some (Lib.bitLen a0.toNat:Int)else none
def exact_NatBits.f (a0:ByteArray):Option (Int):=if a0.toList=([]:List UInt8)then(some 0)else(if 0<(a0.size:Int)then((bits_Len8.f (bt a0 0)).bind fun t379=>(some (wrap64 ((wrap64 (8*(wrap64 ((a0.size:Int)-1))))+t379))))else(none))
def exact_NatPow.l0:Nat→Int→List Int→List Int→Option (ByteArray)
  |0,_,_,_=>none
  |k+1,x1,x5,x6=>if x1>0 then(if(Go.bits .and .i64 x1 1)=1 then((exact_mulWords.f k x5 x6).bind fun t387=>((exact_mulWords.f k x6 x6).bind fun t390=>(exact_NatPow.l0 k (x1/2) t387 t390)))else((exact_mulWords.f k x6 x6).bind fun t393=>(exact_NatPow.l0 k (x1/2) x5 t393)))else((exact_pack.f k x5).bind fun t386=>(some t386))
def exact_NatPow.f (k:Nat) (a0:ByteArray) (a1:Int):Option (ByteArray):=(exact_words.f k a0).bind fun t383=>(exact_NatPow.l0 k a1 (([1]:List Int)) t383)
theorem exact_NatPow.U1 {g:Prop} (h:g:=by
  with_reducible repeat' first
  |exact ih0 _ _ _
  |exact exact_mulWords.mono _ _ _
  |exact exact_pack.mono _ _
  |exact exact_words.mono _ _
  |exact LeO.refl _
  |exact LeO.none _
  |refine LeO.ite ?_ ?_
  |refine LeO.bind ?_ (fun _=>?_)):g:=h
theorem exact_NatPow.mono_l:∀k,(∀y0 y1 y2,LeO (exact_NatPow.l0 k y0 y1 y2) (exact_NatPow.l0 (k+1) y0 y1 y2))
  |0=>fun _ _ _ r h=>by simp [exact_NatPow.l0]at h
  | k+1=>by
    have ih0:=exact_NatPow.mono_l k
    · intro y0 y1 y2
      unfold exact_NatPow.l0
      exact exact_NatPow.U1
theorem exact_NatPow.mono:∀a0 a1 k,LeO (exact_NatPow.f k a0 a1) (exact_NatPow.f (k+1) a0 a1):=by
  intro a0 a1 k
  have ih0:=exact_NatPow.mono_l k
  unfold exact_NatPow.f
  exact exact_NatPow.U1
def exact_NatCmp.j0:Nat→ByteArray→ByteArray→Bool→Option (Int)
  |0,_,_,_=>none
  |k+1,x0,x1,x5=>if x5=true then(some (-1))else(if x0.toList=x1.toList then(some 0)else(some 1))
def exact_NatCmp.f (k:Nat) (a0:ByteArray) (a1:ByteArray):Option (Int):=if(a0.size:Int)<(a1.size:Int)then(exact_NatCmp.j0 k a0 a1 true)else(if(a0.size:Int)=(a1.size:Int)then(exact_NatCmp.j0 k a0 a1 (Op.bytesLess a0.toList a1.toList))else(exact_NatCmp.j0 k a0 a1 false))
theorem exact_NatCmp.U1 {g:Prop} (h:g:=by
  with_reducible repeat' first
  |exact ih0 _ _ _
  |exact LeO.refl _
  |exact LeO.none _
  |refine LeO.ite ?_ ?_
  |refine LeO.bind ?_ (fun _=>?_)):g:=h
theorem exact_NatCmp.mono_l:∀k,(∀y0 y1 y2,LeO (exact_NatCmp.j0 k y0 y1 y2) (exact_NatCmp.j0 (k+1) y0 y1 y2))
  |0=>fun _ _ _ r h=>by simp [exact_NatCmp.j0]at h
  | k+1=>by
    have ih0:=exact_NatCmp.mono_l k
    · intro y0 y1 y2
      unfold exact_NatCmp.j0
      exact exact_NatCmp.U1
theorem exact_NatCmp.mono:∀a0 a1 k,LeO (exact_NatCmp.f k a0 a1) (exact_NatCmp.f (k+1) a0 a1):=by
  intro a0 a1 k
  have ih0:=exact_NatCmp.mono_l k
  unfold exact_NatCmp.f
  exact exact_NatCmp.U1
def exact_NatTwo.f (a0:Int):Option (ByteArray):=if 0≤(wrap64 ((wrap64 (Int.tdiv a0 8))+1))then(if(wrap64 ((wrap64 (Int.tdiv a0 8))+1):Int).toNat≤281474976710656 then((some (List.replicate (wrap64 ((wrap64 (Int.tdiv a0 8))+1):Int).toNat 0:List Int)).bind fun y396=>(if 0≤(Int.tmod a0 8)then(if 0<(y396.length:Int)then(some (strOfNums (y396.set (0:Int).toNat (shl .u8 1 (Int.tmod a0 8)))))else(none))else(none)))else(none))else(none)
def exact_NatRoot.l0:Nat→ByteArray→Int→ByteArray→Int→Option (ByteArray)
  |0,_,_,_,_=>none
  |k+1,x0,x1,x5,x6=>if x6≥0 then((exact_NatTwo.f x6).bind fun t401=>((exact_NatAdd.f k x5 t401).bind fun t402=>((exact_NatPow.f k t402 x1).bind fun t403=>((exact_NatCmp.f k t403 x0).bind fun t404=>(if t404≤0 then(exact_NatRoot.l0 k x0 x1 t402 (wrap64 (x6-1)))else(exact_NatRoot.l0 k x0 x1 x5 (wrap64 (x6-1))))))))else(some x5)
def exact_NatRoot.f (k:Nat) (a0:ByteArray) (a1:Int):Option (ByteArray):=(exact_NatBits.f a0).bind fun t400=>(if a1=0 then(none)else(exact_NatRoot.l0 k a0 a1 (⟨#[]⟩:ByteArray) (wrap64 (Int.tdiv (wrap64 ((wrap64 (t400+a1))-1)) a1))))
theorem exact_NatRoot.U1 {g:Prop} (h:g:=by
  with_reducible repeat' first
  |exact ih0 _ _ _ _
  |exact exact_NatAdd.mono _ _ _
  |exact exact_NatCmp.mono _ _ _
  |exact exact_NatPow.mono _ _ _
  |exact LeO.refl _
  |exact LeO.none _
  |refine LeO.ite ?_ ?_
  |refine LeO.bind ?_ (fun _=>?_)):g:=h
theorem exact_NatRoot.mono_l:∀k,(∀y0 y1 y2 y3,LeO (exact_NatRoot.l0 k y0 y1 y2 y3) (exact_NatRoot.l0 (k+1) y0 y1 y2 y3))
  |0=>fun _ _ _ _ r h=>by simp [exact_NatRoot.l0]at h
  | k+1=>by
    have ih0:=exact_NatRoot.mono_l k
    · intro y0 y1 y2 y3
      unfold exact_NatRoot.l0
      exact exact_NatRoot.U1
theorem exact_NatRoot.mono:∀a0 a1 k,LeO (exact_NatRoot.f k a0 a1) (exact_NatRoot.f (k+1) a0 a1):=by
  intro a0 a1 k
  have ih0:=exact_NatRoot.mono_l k
  unfold exact_NatRoot.f
  exact exact_NatRoot.U1
def exact_IntSqrt.f (k:Nat) (a0_0:Bool) (a0_1:ByteArray):Option (Bool×ByteArray×Bool):=if a0_0=true then(some (false,(⟨#[]⟩:ByteArray),false))else((exact_NatRoot.f k a0_1 2).bind fun t407=>((exact_NatMul.f k t407 t407).bind fun t408=>(if t408.toList=a0_1.toList then(some (false,t407,true))else(some (false,(⟨#[]⟩:ByteArray),false)))))
theorem exact_IntSqrt.mono:∀a0 a1 k,LeO (exact_IntSqrt.f k a0 a1) (exact_IntSqrt.f (k+1) a0 a1):=by
  intro a0 a1 k
  unfold exact_IntSqrt.f
  with_reducible repeat' first
      |exact exact_NatMul.mono _ _ _
      |exact exact_NatRoot.mono _ _ _
      |exact LeO.refl _
      |exact LeO.none _
      |refine LeO.ite ?_ ?_
      |refine LeO.bind ?_ (fun _=>?_)
def galoisref01_Valid.f (a0:ByteArray):Option (Bool):=if a0.toList=([]:List UInt8)then(some true)else(if 0<(a0.size:Int)then(some ((bt a0 0) !=0))else(none))
def galoisref02_Valid.f (a0_0:Bool) (a0_1:ByteArray):Option (Bool):=(galoisref01_Valid.f a0_1).bind fun t551=>(if t551=true then(if a0_0=true then(some (a0_1.toList !=([]:List UInt8)))else(some true))else(some false))
def galoisref01_Fits.f (a0:ByteArray):Option (Int):=if(a0.size:Int)>1024 then(some 4)else(some 0)
def galoisref02_Fits.f (a0_0:Bool) (a0_1:ByteArray):Option (Int):=(galoisref01_Fits.f a0_1).bind fun t490=>(some t490)
def galoisref01_trimV.l0:Nat→List Int→Option (List Int)
  |0,_=>none
  |k+1,x0=>if(x0.length:Int)>0 then(if 0≤(wrap64 ((x0.length:Int)-1))then(if(wrap64 ((x0.length:Int)-1))<(x0.length:Int)then(if(rd x0 (wrap64 ((x0.length:Int)-1)))=0 then(if(wrap64 ((x0.length:Int)-1))≤(x0.length:Int)then(galoisref01_trimV.l0 k (x0.take ((wrap64 ((x0.length:Int)-1)):Int).toNat))else(none))else(some x0))else(none))else(none))else(some x0)
def galoisref01_trimV.f (k:Nat) (l0:List Int):Option (List Int):=galoisref01_trimV.l0 k l0
theorem galoisref01_trimV.U1 {g:Prop} (h:g:=by
  with_reducible repeat' first
  |exact ih0 _
  |exact LeO.refl _
  |exact LeO.none _
  |refine LeO.ite ?_ ?_
  |refine LeO.bind ?_ (fun _=>?_)):g:=h
theorem galoisref01_trimV.mono_l:∀k,(∀y0,LeO (galoisref01_trimV.l0 k y0) (galoisref01_trimV.l0 (k+1) y0))
  |0=>fun _ r h=>by simp [galoisref01_trimV.l0]at h
  | k+1=>by
    have ih0:=galoisref01_trimV.mono_l k
    · intro y0
      unfold galoisref01_trimV.l0
      exact galoisref01_trimV.U1
theorem galoisref01_trimV.mono:∀a0 k,LeO (galoisref01_trimV.f k a0) (galoisref01_trimV.f (k+1) a0):=by
  intro a0 k
  have ih0:=galoisref01_trimV.mono_l k
  unfold galoisref01_trimV.f
  exact galoisref01_trimV.U1
def galoisref01_trim.l0:Nat→List Int→Option (List Int)
  |0,_=>none
  |k+1,x0=>if(x0.length:Int)>0 then(if 0≤(wrap64 ((x0.length:Int)-1))then(if(wrap64 ((x0.length:Int)-1))<(x0.length:Int)then(if(rd x0 (wrap64 ((x0.length:Int)-1)))=0 then(if(wrap64 ((x0.length:Int)-1))≤(x0.length:Int)then(galoisref01_trim.l0 k (x0.take ((wrap64 ((x0.length:Int)-1)):Int).toNat))else(none))else(some x0))else(none))else(none))else(some x0)
def galoisref01_trim.f (k:Nat) (l0:List Int):Option (List Int):=galoisref01_trim.l0 k l0
theorem galoisref01_trim.U1 {g:Prop} (h:g:=by
  with_reducible repeat' first
  |exact ih0 _
  |exact LeO.refl _
  |exact LeO.none _
  |refine LeO.ite ?_ ?_
  |refine LeO.bind ?_ (fun _=>?_)):g:=h
theorem galoisref01_trim.mono_l:∀k,(∀y0,LeO (galoisref01_trim.l0 k y0) (galoisref01_trim.l0 (k+1) y0))
  |0=>fun _ r h=>by simp [galoisref01_trim.l0]at h
  | k+1=>by
    have ih0:=galoisref01_trim.mono_l k
    · intro y0
      unfold galoisref01_trim.l0
      exact galoisref01_trim.U1
theorem galoisref01_trim.mono:∀a0 k,LeO (galoisref01_trim.f k a0) (galoisref01_trim.f (k+1) a0):=by
  intro a0 k
  have ih0:=galoisref01_trim.mono_l k
  unfold galoisref01_trim.f
  exact galoisref01_trim.U1
mutual
def galoisref01_limbs.l0:Nat→ByteArray→List Int→Int→Option (List Int)
  |0,_,_,_=>none
  |k+1,x0,x3,x4=>if x4>0 then(galoisref01_limbs.l1 k x0 x3 x4 0 (mx 0 (wrap64 (x4-4))))else((galoisref01_trim.f k x3).bind fun t513=>(some t513))
def galoisref01_limbs.l1:Nat→ByteArray→List Int→Int→Int→Int→Option (List Int)
  |0,_,_,_,_,_=>none
  |k+1,x0,x3,x4,x5,x6=>if x6<x4 then(if 0≤x6 then(if x6<(x0.size:Int)then(galoisref01_limbs.l1 k x0 x3 x4 (IntKind.u64.wrap ((IntKind.u64.wrap (x5*256))+(IntKind.u64.wrap (bt x0 x6)))) (wrap64 (x6+1)))else(none))else(none))else(if x3.length<17592186044416 then(galoisref01_limbs.l0 k x0 (x3++[x5]) (wrap64 (x4-4)))else(none))
end
def galoisref01_limbs.f (k:Nat) (a0:ByteArray):Option (List Int):=galoisref01_limbs.l0 k a0 ([]:List Int) (a0.size:Int)
theorem galoisref01_limbs.U1 {g:Prop} (h:g:=by
  with_reducible repeat' first
  |exact ih0 _ _ _
  |exact ih1 _ _ _ _ _
  |exact galoisref01_trim.mono _ _
  |exact LeO.refl _
  |exact LeO.none _
  |refine LeO.ite ?_ ?_
  |refine LeO.bind ?_ (fun _=>?_)):g:=h
theorem galoisref01_limbs.mono_l:∀k,(∀y0 y1 y2,LeO (galoisref01_limbs.l0 k y0 y1 y2) (galoisref01_limbs.l0 (k+1) y0 y1 y2))∧(∀y0 y1 y2 y3 y4,LeO (galoisref01_limbs.l1 k y0 y1 y2 y3 y4) (galoisref01_limbs.l1 (k+1) y0 y1 y2 y3 y4))
  |0=>⟨fun _ _ _ r h=>by simp [galoisref01_limbs.l0]at h,fun _ _ _ _ _ r h=>by simp [galoisref01_limbs.l1]at h⟩
  | k+1=>by
    obtain⟨ih0,ih1⟩:=galoisref01_limbs.mono_l k
    refine⟨?_,?_⟩
    · intro y0 y1 y2
      unfold galoisref01_limbs.l0
      exact galoisref01_limbs.U1
    · intro y0 y1 y2 y3 y4
      unfold galoisref01_limbs.l1
      exact galoisref01_limbs.U1
theorem galoisref01_limbs.mono:∀a0 k,LeO (galoisref01_limbs.f k a0) (galoisref01_limbs.f (k+1) a0):=by
  intro a0 k
  obtain⟨ih0,ih1⟩:=galoisref01_limbs.mono_l k
  unfold galoisref01_limbs.f
  exact galoisref01_limbs.U1
def galoisref01_below.l0:Nat→List Int→List Int→Int→Option (Bool)
  |0,_,_,_=>none
  |k+1,x0,x1,x5=>if x5≥0 then(if 0≤x5 then(if x5<(x0.length:Int)then(if x5<(x1.length:Int)then(if(rd x0 x5)=(rd x1 x5)then(galoisref01_below.l0 k x0 x1 (wrap64 (x5-1)))else(some (decide ((rd x0 x5)<(rd x1 x5)))))else(none))else(none))else(none))else(some false)
def galoisref01_below.f (k:Nat) (l0:List Int) (l1:List Int):Option (Bool):=(galoisref01_trimV.f k l0).bind fun t519=>(if(t519.length:Int)=(l1.length:Int)then(galoisref01_below.l0 k t519 l1 (wrap64 ((t519.length:Int)-1)))else(some (decide ((t519.length:Int)<(l1.length:Int)))))
theorem galoisref01_below.U1 {g:Prop} (h:g:=by
  with_reducible repeat' first
  |exact ih0 _ _ _
  |exact galoisref01_trimV.mono _ _
  |exact LeO.refl _
  |exact LeO.none _
  |refine LeO.ite ?_ ?_
  |refine LeO.bind ?_ (fun _=>?_)):g:=h
theorem galoisref01_below.mono_l:∀k,(∀y0 y1 y2,LeO (galoisref01_below.l0 k y0 y1 y2) (galoisref01_below.l0 (k+1) y0 y1 y2))
  |0=>fun _ _ _ r h=>by simp [galoisref01_below.l0]at h
  | k+1=>by
    have ih0:=galoisref01_below.mono_l k
    · intro y0 y1 y2
      unfold galoisref01_below.l0
      exact galoisref01_below.U1
theorem galoisref01_below.mono:∀a0 a1 k,LeO (galoisref01_below.f k a0 a1) (galoisref01_below.f (k+1) a0 a1):=by
  intro a0 a1 k
  have ih0:=galoisref01_below.mono_l k
  unfold galoisref01_below.f
  exact galoisref01_below.U1
mutual
def galoisref01_DivMod.l0:Nat→List Int→Int→List Int→List Int→Int→Option (ByteArray×ByteArray)
  |0,_,_,_,_,_=>none
  |k+1,x7,x8,x9,x10,x11=>if x11≥0 then(galoisref01_DivMod.l1 k x7 x8 x9 x10 x11)else((galoisref01_pack.f k x10).bind fun t538=>((galoisref01_pack.f k x9).bind fun t539=>(some (t538,t539))))
def galoisref01_DivMod.l1:Nat→List Int→Int→List Int→List Int→Int→Option (ByteArray×ByteArray)
  |0,_,_,_,_,_=>none
  |k+1,x7,x8,x9,x10,x11=>if 0≤x11 then(if x11≤(x9.length:Int)then((galoisref01_below.f k (x9.drop (x11:Int).toNat) x7).bind fun t544=>(if t544=true then(galoisref01_DivMod.l0 k x7 x8 x9 x10 (wrap64 (x11-1)))else(if 0≤(wrap64 (x11+x8))then(if(wrap64 (x11+x8))<(x9.length:Int)then(if 0≤(wrap64 ((wrap64 (x11+x8))-1))then(if(wrap64 ((wrap64 (x11+x8))-1))<(x9.length:Int)then(if 0≤(wrap64 (x8-1))then(if(wrap64 (x8-1))<(x7.length:Int)then(if(IntKind.u64.wrap ((rd x7 (wrap64 (x8-1)))+1))=0 then(none)else(if x11<(x10.length:Int)then(galoisref01_DivMod.l2 k x7 x8 x9 (x10.set (x11:Int).toNat (IntKind.u64.wrap ((rd x10 x11)+(mx 1 (IntKind.u64.wrap (Int.tdiv (IntKind.u64.wrap ((IntKind.u64.wrap ((rd x9 (wrap64 (x11+x8)))*4294967296))+(rd x9 (wrap64 ((wrap64 (x11+x8))-1))))) (IntKind.u64.wrap ((rd x7 (wrap64 (x8-1)))+1)))))))) x11 (mx 1 (IntKind.u64.wrap (Int.tdiv (IntKind.u64.wrap ((IntKind.u64.wrap ((rd x9 (wrap64 (x11+x8)))*4294967296))+(rd x9 (wrap64 ((wrap64 (x11+x8))-1))))) (IntKind.u64.wrap ((rd x7 (wrap64 (x8-1)))+1))))) 0 0)else(none)))else(none))else(none))else(none))else(none))else(none))else(none))))else(none))else(none)
def galoisref01_DivMod.l2:Nat→List Int→Int→List Int→List Int→Int→Int→Int→Int→Option (ByteArray×ByteArray)
  |0,_,_,_,_,_,_,_,_=>none
  |k+1,x7,x8,x9,x10,x11,x12,x13,x14=>if x14<x8 then(if 0≤x14 then(if x14<(x7.length:Int)then(if 0≤(wrap64 (x11+x14))then(if(wrap64 (x11+x14))<(x9.length:Int)then(if(rd x9 (wrap64 (x11+x14)))<(Go.bits .and .u64 (IntKind.u64.wrap ((IntKind.u64.wrap ((rd x7 x14)*x12))+x13)) 4294967295)then((some (x9.set ((wrap64 (x11+x14)):Int).toNat (IntKind.u64.wrap ((rd x9 (wrap64 (x11+x14)))+4294967296)):List Int)).bind fun y553=>(galoisref01_DivMod.l2 k x7 x8 (y553.set ((wrap64 (x11+x14)):Int).toNat (IntKind.u64.wrap ((rd y553 (wrap64 (x11+x14)))-(Go.bits .and .u64 (IntKind.u64.wrap ((IntKind.u64.wrap ((rd x7 x14)*x12))+x13)) 4294967295)))) x10 x11 x12 (IntKind.u64.wrap (((IntKind.u64.wrap ((IntKind.u64.wrap ((rd x7 x14)*x12))+x13))/4294967296)+1)) (wrap64 (x14+1))))else(galoisref01_DivMod.l2 k x7 x8 (x9.set ((wrap64 (x11+x14)):Int).toNat (IntKind.u64.wrap ((rd x9 (wrap64 (x11+x14)))-(Go.bits .and .u64 (IntKind.u64.wrap ((IntKind.u64.wrap ((rd x7 x14)*x12))+x13)) 4294967295)))) x10 x11 x12 ((IntKind.u64.wrap ((IntKind.u64.wrap ((rd x7 x14)*x12))+x13))/4294967296) (wrap64 (x14+1))))else(none))else(none))else(none))else(none))else(if 0≤(wrap64 (x11+x8))then(if(wrap64 (x11+x8))<(x9.length:Int)then(galoisref01_DivMod.l1 k x7 x8 (x9.set ((wrap64 (x11+x8)):Int).toNat (IntKind.u64.wrap ((rd x9 (wrap64 (x11+x8)))-x13))) x10 x11)else(none))else(none))
end
def galoisref01_DivMod.f (k:Nat) (a0:ByteArray) (a1:ByteArray):Option (ByteArray×ByteArray):=if a1.toList=([]:List UInt8)then(some ((⟨#[]⟩:ByteArray),(⟨#[]⟩:ByteArray)))else((galoisref01_limbs.f k a0).bind fun t526=>((galoisref01_limbs.f k a1).bind fun t529=>(if t526.length<17592186044416 then(if 0≤(mx 0 (wrap64 ((wrap64 ((t526.length:Int)-(t529.length:Int)))+1)))then(if(mx 0 (wrap64 ((wrap64 ((t526.length:Int)-(t529.length:Int)))+1)):Int).toNat≤35184372088832 then((some (List.replicate (mx 0 (wrap64 ((wrap64 ((t526.length:Int)-(t529.length:Int)))+1)):Int).toNat 0:List Int)).bind fun y535=>(galoisref01_DivMod.l0 k t529 (t529.length:Int) (t526++[0]) y535 (wrap64 ((y535.length:Int)-1))))else(none))else(none))else(none))))
theorem galoisref01_DivMod.U1 {g:Prop} (h:g:=by
  with_reducible repeat' first
  |exact ih0 _ _ _ _ _
  |exact ih1 _ _ _ _ _
  |exact ih2 _ _ _ _ _ _ _ _
  |exact galoisref01_below.mono _ _ _
  |exact galoisref01_limbs.mono _ _
  |exact galoisref01_pack.mono _ _
  |exact LeO.refl _
  |exact LeO.none _
  |refine LeO.ite ?_ ?_
  |refine LeO.bind ?_ (fun _=>?_)):g:=h
theorem galoisref01_DivMod.mono_l:∀k,(∀y0 y1 y2 y3 y4,LeO (galoisref01_DivMod.l0 k y0 y1 y2 y3 y4) (galoisref01_DivMod.l0 (k+1) y0 y1 y2 y3 y4))∧(∀y0 y1 y2 y3 y4,LeO (galoisref01_DivMod.l1 k y0 y1 y2 y3 y4) (galoisref01_DivMod.l1 (k+1) y0 y1 y2 y3 y4))∧(∀y0 y1 y2 y3 y4 y5 y6 y7,LeO (galoisref01_DivMod.l2 k y0 y1 y2 y3 y4 y5 y6 y7) (galoisref01_DivMod.l2 (k+1) y0 y1 y2 y3 y4 y5 y6 y7))
  |0=>⟨fun _ _ _ _ _ r h=>by simp [galoisref01_DivMod.l0]at h,fun _ _ _ _ _ r h=>by simp [galoisref01_DivMod.l1]at h,fun _ _ _ _ _ _ _ _ r h=>by simp [galoisref01_DivMod.l2]at h⟩
  | k+1=>by
    obtain⟨ih0,ih1,ih2⟩:=galoisref01_DivMod.mono_l k
    refine⟨?_,?_,?_⟩
    · intro y0 y1 y2 y3 y4
      unfold galoisref01_DivMod.l0
      exact galoisref01_DivMod.U1
    · intro y0 y1 y2 y3 y4
      unfold galoisref01_DivMod.l1
      exact galoisref01_DivMod.U1
    · intro y0 y1 y2 y3 y4 y5 y6 y7
      unfold galoisref01_DivMod.l2
      exact galoisref01_DivMod.U1
theorem galoisref01_DivMod.mono:∀a0 a1 k,LeO (galoisref01_DivMod.f k a0 a1) (galoisref01_DivMod.f (k+1) a0 a1):=by
  intro a0 a1 k
  obtain⟨ih0,ih1,ih2⟩:=galoisref01_DivMod.mono_l k
  unfold galoisref01_DivMod.f
  exact galoisref01_DivMod.U1
def galoisref02_Make.f (a0:Bool) (a1:ByteArray):Option (Bool×ByteArray):=if a0=true then(some ((!a1.toList.isEmpty),a1))else(some (false,a1))
def galoisref01_Gcd.l0:Nat→ByteArray→ByteArray→Option (ByteArray)
  |0,_,_=>none
  |k+1,x0,x1=>if x1.toList=([]:List UInt8)then(some x0)else((galoisref01_DivMod.f k x0 x1).bind fun bt624=>(galoisref01_Gcd.l0 k x1 bt624.2))
def galoisref01_Gcd.f (k:Nat) (a0:ByteArray) (a1:ByteArray):Option (ByteArray):=galoisref01_Gcd.l0 k a0 a1
theorem galoisref01_Gcd.U1 {g:Prop} (h:g:=by
  with_reducible repeat' first
  |exact ih0 _ _
  |exact galoisref01_DivMod.mono _ _ _
  |exact LeO.refl _
  |exact LeO.none _
  |refine LeO.ite ?_ ?_
  |refine LeO.bind ?_ (fun _=>?_)):g:=h
theorem galoisref01_Gcd.mono_l:∀k,(∀y0 y1,LeO (galoisref01_Gcd.l0 k y0 y1) (galoisref01_Gcd.l0 (k+1) y0 y1))
  |0=>fun _ _ r h=>by simp [galoisref01_Gcd.l0]at h
  | k+1=>by
    have ih0:=galoisref01_Gcd.mono_l k
    · intro y0 y1
      unfold galoisref01_Gcd.l0
      exact galoisref01_Gcd.U1
theorem galoisref01_Gcd.mono:∀a0 a1 k,LeO (galoisref01_Gcd.f k a0 a1) (galoisref01_Gcd.f (k+1) a0 a1):=by
  intro a0 a1 k
  have ih0:=galoisref01_Gcd.mono_l k
  unfold galoisref01_Gcd.f
  exact galoisref01_Gcd.U1
def exact_IntAdd.f (k:Nat) (a0_0:Bool) (a0_1:ByteArray) (a1_0:Bool) (a1_1:ByteArray):Option (Bool×ByteArray):=if(a0_0==a1_0)=true then((exact_NatAdd.f k a0_1 a1_1).bind fun t716=>((exact_IntMake.f a0_0 t716).bind fun bt717=>(some (bt717.1,bt717.2))))else((exact_NatCmp.f k a0_1 a1_1).bind fun t719=>(if t719<0 then((exact_NatSub.f k a1_1 a0_1).bind fun t720=>((exact_IntMake.f a1_0 t720).bind fun bt721=>(some (bt721.1,bt721.2))))else((exact_NatSub.f k a0_1 a1_1).bind fun t723=>((exact_IntMake.f a0_0 t723).bind fun bt724=>(some (bt724.1,bt724.2))))))
theorem exact_IntAdd.mono:∀a0 a1 a2 a3 k,LeO (exact_IntAdd.f k a0 a1 a2 a3) (exact_IntAdd.f (k+1) a0 a1 a2 a3):=by
  intro a0 a1 a2 a3 k
  unfold exact_IntAdd.f
  with_reducible repeat' first
      |exact exact_NatAdd.mono _ _ _
      |exact exact_NatCmp.mono _ _ _
      |exact exact_NatSub.mono _ _ _
      |exact LeO.refl _
      |exact LeO.none _
      |refine LeO.ite ?_ ?_
      |refine LeO.bind ?_ (fun _=>?_)
def exact_NatUint.f (k:Nat) (a0:ByteArray):Option (Int×Bool):=(exact_words.f k a0).bind fun t1029=>(if(t1029.length:Int)>1 then(some (0,false))else(if(t1029.length:Int)=0 then(some (0,true))else(if 0<(t1029.length:Int)then(some (rd t1029 0,true))else(none))))
def natural_first.l0:Nat→List ByteArray→Int→Int→Option (Int)
  |0,_,_,_=>none
  |k+1,x6,x7,x8=>if x8<x7 then(if 0≤x8 then(if x8<(x6.length:Int)then((natural_Check.f k (rdOf ByteArray.empty x6 x8)).bind fun t1146=>(if t1146=0 then(natural_first.l0 k x6 x7 (wrap64 (x8+1)))else(some t1146)))else(none))else(none))else(some 0)
def natural_first.f (k:Nat) (l0:List ByteArray):Option (Int):=natural_first.l0 k l0 (l0.length:Int) 0
def natural_Of.byte (a:Int) (j:Nat):Int:=(a/2^(56-8*j))%256
def natural_Of.bytes (a:Int) (k:Nat):List Int:=(List.range k).map (natural_Of.byte a)++List.replicate (8-k) 0
def natural_Of.f (a0:Int):Option (ByteArray):=if 0≤a0∧a0≤18446744073709551615 then some (strOfNums ((natural_Of.bytes a0 8).dropWhile (· ==0)))else none
def natural_Of.len (v:Value):Nat:=match v with| .slice _ n _=>n|_=>0
mutual
def natural_Format.l0:Nat→ByteArray→List Int→Option (ByteArray×Int)
  |0,_,_=>none
  |k+1,x0,x5=>if x0.toList=([]:List UInt8)then(natural_Format.l1 k x5 ([]:List Int) (x5.length:Int) 0)else((natural_Of.f 1000000000000000000).bind fun t1151=>((exact_NatDivMod.f k x0 t1151).bind fun bt1152=>((exact_NatUint.f k bt1152.2).bind fun bt1154=>(if x5.length<17592186044416 then(natural_Format.l0 k bt1152.1 (x5++[bt1154.1]))else(none)))))
def natural_Format.l1:Nat→List Int→List Int→Int→Int→Option (ByteArray×Int)
  |0,_,_,_,_=>none
  |k+1,x5,x10,x43,x44=>if x44<x43 then(if 0≤x44 then(if x44<(x5.length:Int)then(natural_Format.l2 k x5 x10 x44 (rd x5 x44) 0 x43 x44)else(none))else(none))else(natural_Format.l3 k x10 0 (wrap64 ((x10.length:Int)-1)))
def natural_Format.l2:Nat→List Int→List Int→Int→Int→Int→Int→Int→Option (ByteArray×Int)
  |0,_,_,_,_,_,_,_=>none
  |k+1,x5,x10,x11,x12,x13,x43,x44=>if x13<18 then(if x12>0 then(if x10.length<140737488355328 then(natural_Format.l2 k x5 (x10++[(IntKind.u64.wrap (48+(Int.tmod x12 10)))%256]) x11 (IntKind.u64.wrap (Int.tdiv x12 10)) (wrap64 (x13+1)) x43 x44)else(none))else(if x11<(wrap64 ((x5.length:Int)-1))then(if x10.length<140737488355328 then(natural_Format.l2 k x5 (x10++[(IntKind.u64.wrap (48+(Int.tmod x12 10)))%256]) x11 (IntKind.u64.wrap (Int.tdiv x12 10)) (wrap64 (x13+1)) x43 x44)else(none))else(natural_Format.l1 k x5 x10 x43 (wrap64 (x44+1)))))else(natural_Format.l1 k x5 x10 x43 (wrap64 (x44+1)))
def natural_Format.l3:Nat→List Int→Int→Int→Option (ByteArray×Int)
  |0,_,_,_=>none
  |k+1,x10,x14,x15=>if x14<x15 then(if 0≤x15 then(if x15<(x10.length:Int)then(if 0≤x14 then(if x14<(x10.length:Int)then(natural_Format.l3 k ((x10.set (x14:Int).toNat (rd x10 x15)).set (x15:Int).toNat (rd x10 x14)) (wrap64 (x14+1)) (wrap64 (x15-1)))else(none))else(none))else(none))else(none))else(some (strOfNums x10,0))
end
def natural_Format.f (k:Nat) (a0:ByteArray):Option (ByteArray×Int):=(natural_first.f k (([a0]:List ByteArray))).bind fun t1150=>(if t1150=0 then(if a0.toList=([]:List UInt8)then(some ((⟨#[48]⟩:ByteArray),0))else(natural_Format.l0 k a0 ([]:List Int)))else(some ((⟨#[]⟩:ByteArray),t1150)))
def integer_Format.f (k:Nat) (a0_0:Bool) (a0_1:ByteArray):Option (ByteArray×Int):=(integer_Check.f k a0_0 a0_1).bind fun t1171=>(if t1171=0 then((natural_Format.f k a0_1).bind fun bt1172=>(if a0_0=true then(if bt1172.2=0 then(if 1+bt1172.1.size≤9223372036854775807 then(some ((⟨#[45]⟩:ByteArray)++bt1172.1,bt1172.2))else(none))else(some (bt1172.1,bt1172.2)))else(some (bt1172.1,bt1172.2))))else(some ((⟨#[]⟩:ByteArray),t1171)))
def natural_bounded.f (a0:ByteArray):Option (ByteArray×Int):=if(a0.size:Int)>1024 then(some ((⟨#[]⟩:ByteArray),4))else(some (a0,0))
mutual
def natural_Parse.j0:Nat→ByteArray→Bool→Option (ByteArray×Int)
  |0,_,_=>none
  |k+1,x0,x24=>if x24=true then(some ((⟨#[]⟩:ByteArray),11))else(natural_Parse.l0 k x0 (x0.size:Int) 0)
def natural_Parse.l0:Nat→ByteArray→Int→Int→Option (ByteArray×Int)
  |0,_,_,_=>none
  |k+1,x0,x26,x27=>if x27<x26 then(if 0≤x27 then(if x27<(x0.size:Int)then(if(bt x0 x27)<48 then(some ((⟨#[]⟩:ByteArray),11))else(if(bt x0 x27)>57 then(some ((⟨#[]⟩:ByteArray),11))else(natural_Parse.l0 k x0 x26 (wrap64 (x27+1)))))else(none))else(none))else(natural_Parse.l1 k x0 (⟨#[]⟩:ByteArray) 0)
def natural_Parse.l1:Nat→ByteArray→ByteArray→Int→Option (ByteArray×Int)
  |0,_,_,_=>none
  |k+1,x0,x5,x6=>if x6<(x0.size:Int)then(natural_Parse.l2 k x0 x5 x6 (mn (x0.size:Int) (wrap64 (x6+18))) 0 1)else((natural_bounded.f x5).bind fun bt1174=>(some (bt1174.1,bt1174.2)))
def natural_Parse.l2:Nat→ByteArray→ByteArray→Int→Int→Int→Int→Option (ByteArray×Int)
  |0,_,_,_,_,_,_=>none
  |k+1,x0,x5,x6,x7,x8,x9=>if x6<x7 then(if 0≤x6 then(if x6<(x0.size:Int)then(natural_Parse.l2 k x0 x5 (wrap64 (x6+1)) x7 (IntKind.u64.wrap ((IntKind.u64.wrap (10*x8))+(((bt x0 x6)-48)%256))) (IntKind.u64.wrap (10*x9)))else(none))else(none))else((natural_Of.f x9).bind fun t1176=>((exact_NatMul.f k x5 t1176).bind fun t1177=>((natural_Of.f x8).bind fun t1178=>((exact_NatAdd.f k t1177 t1178).bind fun t1179=>(natural_Parse.l1 k x0 t1179 x6)))))
end
def natural_Parse.f (k:Nat) (a0:ByteArray):Option (ByteArray×Int):=if(a0.size:Int)>4096 then(some ((⟨#[]⟩:ByteArray),12))else(if a0.toList=([]:List UInt8)then(natural_Parse.j0 k a0 true)else(if 0<(a0.size:Int)then(if(bt a0 0)=48 then(natural_Parse.j0 k a0 (decide ((a0.size:Int)>1)))else(natural_Parse.j0 k a0 false))else(none)))
theorem natural_Parse.U1 {g:Prop} (h:g:=by
  with_reducible repeat' first
  |exact ih0 _ _
  |exact ih1 _ _ _
  |exact ih2 _ _ _
  |exact ih3 _ _ _ _ _ _
  |exact exact_NatAdd.mono _ _ _
  |exact exact_NatMul.mono _ _ _
  |exact LeO.refl _
  |exact LeO.none _
  |refine LeO.ite ?_ ?_
  |refine LeO.bind ?_ (fun _=>?_)):g:=h
theorem natural_Parse.mono_l:∀k,(∀y0 y1,LeO (natural_Parse.j0 k y0 y1) (natural_Parse.j0 (k+1) y0 y1))∧(∀y0 y1 y2,LeO (natural_Parse.l0 k y0 y1 y2) (natural_Parse.l0 (k+1) y0 y1 y2))∧(∀y0 y1 y2,LeO (natural_Parse.l1 k y0 y1 y2) (natural_Parse.l1 (k+1) y0 y1 y2))∧(∀y0 y1 y2 y3 y4 y5,LeO (natural_Parse.l2 k y0 y1 y2 y3 y4 y5) (natural_Parse.l2 (k+1) y0 y1 y2 y3 y4 y5))
  |0=>⟨fun _ _ r h=>by simp [natural_Parse.j0]at h,fun _ _ _ r h=>by simp [natural_Parse.l0]at h,fun _ _ _ r h=>by simp [natural_Parse.l1]at h,fun _ _ _ _ _ _ r h=>by simp [natural_Parse.l2]at h⟩
  | k+1=>by
    obtain⟨ih0,ih1,ih2,ih3⟩:=natural_Parse.mono_l k
    refine⟨?_,?_,?_,?_⟩
    · intro y0 y1
      unfold natural_Parse.j0
      exact natural_Parse.U1
    · intro y0 y1 y2
      unfold natural_Parse.l0
      exact natural_Parse.U1
    · intro y0 y1 y2
      unfold natural_Parse.l1
      exact natural_Parse.U1
    · intro y0 y1 y2 y3 y4 y5
      unfold natural_Parse.l2
      exact natural_Parse.U1
theorem natural_Parse.mono:∀a0 k,LeO (natural_Parse.f k a0) (natural_Parse.f (k+1) a0):=by
  intro a0 k
  obtain⟨ih0,ih1,ih2,ih3⟩:=natural_Parse.mono_l k
  unfold natural_Parse.f
  exact natural_Parse.U1
mutual
def integer_Parse.j0:Nat→ByteArray→Bool→Option (Bool×ByteArray×Int)
  |0,_,_=>none
  |k+1,x0,x4=>if x4=true then(if 1≤(x0.size:Int)then(integer_Parse.j1 k (x0.extract 1 x0.size) x4)else(none))else(integer_Parse.j1 k x0 x4)
def integer_Parse.j1:Nat→ByteArray→Bool→Option (Bool×ByteArray×Int)
  |0,_,_=>none
  |k+1,x0,x4=>(natural_Parse.f k x0).bind fun bt1183=>(if bt1183.2=0 then(if x4=true then(if bt1183.1.toList=([]:List UInt8)then((integer_zero.f).bind fun bt1185=>(some (bt1185.1,bt1185.2,11)))else(some (x4,bt1183.1,0)))else(some (x4,bt1183.1,0)))else((integer_zero.f).bind fun bt1187=>(some (bt1187.1,bt1187.2,bt1183.2))))
end
def integer_Parse.f (k:Nat) (a0:ByteArray):Option (Bool×ByteArray×Int):=if(a0.size:Int)>4096 then((integer_zero.f).bind fun bt1181=>(some (bt1181.1,bt1181.2,12)))else(if(a0.size:Int)>0 then(if 0<(a0.size:Int)then(integer_Parse.j0 k a0 ((bt a0 0)==45))else(none))else(integer_Parse.j0 k a0 false))
theorem integer_Parse.U1 {g:Prop} (h:g:=by
  with_reducible repeat' first
  |exact ih0 _ _
  |exact ih1 _ _
  |exact natural_Parse.mono _ _
  |exact LeO.refl _
  |exact LeO.none _
  |refine LeO.ite ?_ ?_
  |refine LeO.bind ?_ (fun _=>?_)):g:=h
theorem integer_Parse.mono_l:∀k,(∀y0 y1,LeO (integer_Parse.j0 k y0 y1) (integer_Parse.j0 (k+1) y0 y1))∧(∀y0 y1,LeO (integer_Parse.j1 k y0 y1) (integer_Parse.j1 (k+1) y0 y1))
  |0=>⟨fun _ _ r h=>by simp [integer_Parse.j0]at h,fun _ _ r h=>by simp [integer_Parse.j1]at h⟩
  | k+1=>by
    obtain⟨ih0,ih1⟩:=integer_Parse.mono_l k
    refine⟨?_,?_⟩
    · intro y0 y1
      unfold integer_Parse.j0
      exact integer_Parse.U1
    · intro y0 y1
      unfold integer_Parse.j1
      exact integer_Parse.U1
theorem integer_Parse.mono:∀a0 k,LeO (integer_Parse.f k a0) (integer_Parse.f (k+1) a0):=by
  intro a0 k
  obtain⟨ih0,ih1⟩:=integer_Parse.mono_l k
  unfold integer_Parse.f
  exact integer_Parse.U1
mutual
def galoisref01_Digits.j0:Nat→ByteArray→Bool→Option (ByteArray×Bool)
  |0,_,_=>none
  |k+1,x0,x19=>if x19=true then(some ((⟨#[]⟩:ByteArray),false))else(galoisref01_Digits.l0 k x0 ([]:List Int) 0)
def galoisref01_Digits.l0:Nat→ByteArray→List Int→Int→Option (ByteArray×Bool)
  |0,_,_,_=>none
  |k+1,x0,x4,x5=>if x5<(x0.size:Int)then(if 0≤x5 then(if(bt x0 x5)<48 then(galoisref01_Digits.j2 k x0 x4 x5 true)else(galoisref01_Digits.j2 k x0 x4 x5 (decide ((bt x0 x5)>57))))else(none))else((galoisref01_pack.f k x4).bind fun t1189=>(some (t1189,true)))
def galoisref01_Digits.j2:Nat→ByteArray→List Int→Int→Bool→Option (ByteArray×Bool)
  |0,_,_,_,_=>none
  |k+1,x0,x4,x5,x35=>if x35=true then(some ((⟨#[]⟩:ByteArray),false))else(if 0≤x5 then(if x5<(x0.size:Int)then(galoisref01_Digits.l1 k x0 x4 x5 (((bt x0 x5)-48)%256) 0)else(none))else(none))
def galoisref01_Digits.l1:Nat→ByteArray→List Int→Int→Int→Int→Option (ByteArray×Bool)
  |0,_,_,_,_,_=>none
  |k+1,x0,x4,x5,x6,x7=>if x7<(x4.length:Int)then(if 0≤x7 then(galoisref01_Digits.l1 k x0 (x4.set (x7:Int).toNat (Go.bits .and .u64 (IntKind.u64.wrap (x6+(IntKind.u64.wrap ((rd x4 x7)*10)))) 4294967295)) x5 ((IntKind.u64.wrap (x6+(IntKind.u64.wrap ((rd x4 x7)*10))))/4294967296) (wrap64 (x7+1)))else(none))else(if x6>0 then(if x4.length<17592186044416 then(galoisref01_Digits.l0 k x0 (x4++[x6]) (wrap64 (x5+1)))else(none))else(galoisref01_Digits.l0 k x0 x4 (wrap64 (x5+1))))
end
def galoisref01_Digits.f (k:Nat) (a0:ByteArray):Option (ByteArray×Bool):=if a0.toList=([]:List UInt8)then(galoisref01_Digits.j0 k a0 true)else(if(a0.size:Int)>1 then(if 0<(a0.size:Int)then(galoisref01_Digits.j0 k a0 ((bt a0 0)==48))else(none))else(galoisref01_Digits.j0 k a0 false))
theorem galoisref01_Digits.U1 {g:Prop} (h:g:=by
  with_reducible repeat' first
  |exact ih0 _ _
  |exact ih1 _ _ _
  |exact ih2 _ _ _ _
  |exact ih3 _ _ _ _ _
  |exact galoisref01_pack.mono _ _
  |exact LeO.refl _
  |exact LeO.none _
  |refine LeO.ite ?_ ?_
  |refine LeO.bind ?_ (fun _=>?_)):g:=h
theorem galoisref01_Digits.mono_l:∀k,(∀y0 y1,LeO (galoisref01_Digits.j0 k y0 y1) (galoisref01_Digits.j0 (k+1) y0 y1))∧(∀y0 y1 y2,LeO (galoisref01_Digits.l0 k y0 y1 y2) (galoisref01_Digits.l0 (k+1) y0 y1 y2))∧(∀y0 y1 y2 y3,LeO (galoisref01_Digits.j2 k y0 y1 y2 y3) (galoisref01_Digits.j2 (k+1) y0 y1 y2 y3))∧(∀y0 y1 y2 y3 y4,LeO (galoisref01_Digits.l1 k y0 y1 y2 y3 y4) (galoisref01_Digits.l1 (k+1) y0 y1 y2 y3 y4))
  |0=>⟨fun _ _ r h=>by simp [galoisref01_Digits.j0]at h,fun _ _ _ r h=>by simp [galoisref01_Digits.l0]at h,fun _ _ _ _ r h=>by simp [galoisref01_Digits.j2]at h,fun _ _ _ _ _ r h=>by simp [galoisref01_Digits.l1]at h⟩
  | k+1=>by
    obtain⟨ih0,ih1,ih2,ih3⟩:=galoisref01_Digits.mono_l k
    refine⟨?_,?_,?_,?_⟩
    · intro y0 y1
      unfold galoisref01_Digits.j0
      exact galoisref01_Digits.U1
    · intro y0 y1 y2
      unfold galoisref01_Digits.l0
      exact galoisref01_Digits.U1
    · intro y0 y1 y2 y3
      unfold galoisref01_Digits.j2
      exact galoisref01_Digits.U1
    · intro y0 y1 y2 y3 y4
      unfold galoisref01_Digits.l1
      exact galoisref01_Digits.U1
theorem galoisref01_Digits.mono:∀a0 k,LeO (galoisref01_Digits.f k a0) (galoisref01_Digits.f (k+1) a0):=by
  intro a0 k
  obtain⟨ih0,ih1,ih2,ih3⟩:=galoisref01_Digits.mono_l k
  unfold galoisref01_Digits.f
  exact galoisref01_Digits.U1
def galoisref02_Digits.j0:Nat→ByteArray→Bool→Option (Bool×ByteArray×Bool)
  |0,_,_=>none
  |k+1,x0,x15=>if x15=true then(if 1≤(x0.size:Int)then((galoisref01_Digits.f k (x0.extract 1 x0.size)).bind fun bt1196=>((galoisref02_Make.f true bt1196.1).bind fun bt1198=>(if bt1196.2=true then(some (bt1198.1,bt1198.2,(bt1196.1.toList !=([]:List UInt8))))else(some (bt1198.1,bt1198.2,false)))))else(none))else((galoisref01_Digits.f k x0).bind fun bt1200=>(some (false,bt1200.1,bt1200.2)))
def galoisref02_Digits.f (k:Nat) (a0:ByteArray):Option (Bool×ByteArray×Bool):=if(a0.size:Int)>0 then(if 0<(a0.size:Int)then(galoisref02_Digits.j0 k a0 ((bt a0 0)==45))else(none))else(galoisref02_Digits.j0 k a0 false)
theorem galoisref02_Digits.U1 {g:Prop} (h:g:=by
  with_reducible repeat' first
  |exact ih0 _ _
  |exact galoisref01_Digits.mono _ _
  |exact LeO.refl _
  |exact LeO.none _
  |refine LeO.ite ?_ ?_
  |refine LeO.bind ?_ (fun _=>?_)):g:=h
theorem galoisref02_Digits.mono_l:∀k,(∀y0 y1,LeO (galoisref02_Digits.j0 k y0 y1) (galoisref02_Digits.j0 (k+1) y0 y1))
  |0=>fun _ _ r h=>by simp [galoisref02_Digits.j0]at h
  | k+1=>by
    have ih0:=galoisref02_Digits.mono_l k
    · intro y0 y1
      unfold galoisref02_Digits.j0
      exact galoisref02_Digits.U1
mutual
def galoisref01_Format.l0:Nat→List Int→List Int→Option (ByteArray)
  |0,_,_=>none
  |k+1,x3,x4=>if(x4.length:Int)>0 then(galoisref01_Format.l1 k x3 x4 0 (wrap64 ((x4.length:Int)-1)))else(if 0≤(x3.length:Int)then(if((x3.length:Int):Int).toNat≤281474976710656 then(galoisref01_Format.l2 k x3 (List.replicate ((x3.length:Int):Int).toNat 0) 0)else(none))else(none))
def galoisref01_Format.l1:Nat→List Int→List Int→Int→Int→Option (ByteArray)
  |0,_,_,_,_=>none
  |k+1,x3,x4,x5,x6=>if x6≥0 then(if 0≤x6 then(if x6<(x4.length:Int)then(galoisref01_Format.l1 k x3 (x4.set (x6:Int).toNat (IntKind.u64.wrap (Int.tdiv (IntKind.u64.wrap ((IntKind.u64.wrap (x5*4294967296))+(rd x4 x6))) 10))) (Int.tmod (IntKind.u64.wrap ((IntKind.u64.wrap (x5*4294967296))+(rd x4 x6))) 10) (wrap64 (x6-1)))else(none))else(none))else(if x3.length<140737488355328 then((galoisref01_trim.f k x4).bind fun t1216=>(galoisref01_Format.l0 k (x3++[(IntKind.u64.wrap (48+x5))%256]) t1216))else(none))
def galoisref01_Format.l2:Nat→List Int→List Int→Int→Option (ByteArray)
  |0,_,_,_=>none
  |k+1,x3,x7,x8=>if x8<(x3.length:Int)then(if 0≤x8 then(if 0≤(wrap64 ((wrap64 ((x3.length:Int)-1))-x8))then(if(wrap64 ((wrap64 ((x3.length:Int)-1))-x8))<(x7.length:Int)then(galoisref01_Format.l2 k x3 (x7.set ((wrap64 ((wrap64 ((x3.length:Int)-1))-x8)):Int).toNat (rd x3 x8)) (wrap64 (x8+1)))else(none))else(none))else(none))else(some (strOfNums x7))
end
def galoisref01_Format.f (k:Nat) (a0:ByteArray):Option (ByteArray):=if a0.toList=([]:List UInt8)then(some (⟨#[48]⟩:ByteArray))else((galoisref01_limbs.f k a0).bind fun t1208=>(galoisref01_Format.l0 k ([]:List Int) t1208))
def galoisref02_Format.f (k:Nat) (a0_0:Bool) (a0_1:ByteArray):Option (ByteArray):=if a0_0=true then((galoisref01_Format.f k a0_1).bind fun t1225=>(if 1+t1225.size≤9223372036854775807 then(some ((⟨#[45]⟩:ByteArray)++t1225))else(none)))else((galoisref01_Format.f k a0_1).bind fun t1226=>(some t1226))
end Go.Proofs.YtjllholdppjllaaGreat.All
namespace Go.Proofs.YtjllholdppjllaaGreatV
open Go Go.RowKit YtjllholdppjllaaGreat YtjllholdppjllaaGreatE
noncomputable abbrev FX159 (k:Nat) (x0:Int) (x1:Int) (x2:Int):Option R159:=All.bits_Add64.f x0 x1 x2
noncomputable abbrev FX160 (k:Nat) (x0:Int) (x1:Int) (x2:Int):Option R160:=All.bits_Sub64.f x0 x1 x2
noncomputable abbrev FX149 (k:Nat) (x0:Int):Option R149:=All.bits_Len8.f x0
noncomputable abbrev FX167 (k:Nat) (x0:Int):Option R167:=All.bits_Len64.f x0
noncomputable abbrev FX152 (k:Nat) (y0:List Int):Option R152:=(All.exact_trim.f k y0).bind fun r=>some ((r.length:Int),r++y0.drop r.length)
noncomputable abbrev FX142 (k:Nat) (y0:List Int):Option R142:=(All.galoisref01_trim.f k y0).bind fun r=>some ((r.length:Int),r++y0.drop r.length)
noncomputable abbrev FX150 (k:Nat) (x1:List Int) (y0:List Int):Option R150:=(All.galoisref01_below.f k y0 x1).bind fun r=>some (r,y0)
noncomputable abbrev FX135 (k:Nat) (x0:Int):Option R135:=All.natural_Of.f x0
noncomputable abbrev FX172 (k:Nat) (x0:ByteArray) (x1:Int):Option R172:=some (Lib.indexByte x0.data.toList x1.toNat.toUInt8)
end Go.Proofs.YtjllholdppjllaaGreatV
set_option maxRecDepth 100000
namespace Go.Proofs.YtjllholdppjllaaGreatV
open Go Go.RowKit YtjllholdppjllaaGreat YtjllholdppjllaaGreatE YtjllholdppjllaaGreatW.PrintWords YtjllholdppjllaaGreatW.PrintLast YtjllholdppjllaaGreatW.PrintMore
noncomputable abbrev FX84 (k:Nat) (x0:ByteArray):Option R84:=All.natural_Check.f k x0
noncomputable abbrev FX128 (k:Nat):Option R128:=All.integer_zero.f
noncomputable abbrev FX83 (k:Nat) (x0:TI):Option R83:=All.integer_Check.f k x0.1 x0.2
noncomputable abbrev FX129 (k:Nat) (x0:ByteArray):Option R129:=All.exact_words.f k x0
noncomputable abbrev FX153 (k:Nat) (x0:(List Int)) (x1:(List Int)):Option R153:=All.exact_compareWords.f k x0 x1
noncomputable abbrev FX155 (k:Nat) (x0:Int):Option R155:=All.bits_LeadingZeros64.f x0
noncomputable abbrev FX154 (k:Nat) (x0:Int) (x1:Int) (x2:Int):Option R154:=All.bits_Div64.f k x0 x1 x2
noncomputable abbrev FX156 (k:Nat) (x0:(List Int)) (x1:Int):Option R156:=All.exact_shiftUp.f k x0 x1
noncomputable abbrev FX161 (k:Nat) (x0:Int) (x1:Int):Option R161:=All.bits_Mul64.f x0 x1
noncomputable abbrev FX157 (k:Nat) (x1:(List Int)) (y0:(List Int)):Option R157:=All.exact_step.f k y0 x1
noncomputable abbrev FX130 (k:Nat) (x0:(List Int)) (x1:(List Int)):Option R130:=All.exact_divide.f k x0 x1
noncomputable abbrev FX152v (k:Nat) (x0:(List Int)):Option R152v:=All.exact_trim.f k x0
noncomputable abbrev FX131 (k:Nat) (x0:(List Int)):Option R131:=All.exact_pack.f k x0
noncomputable abbrev FX85 (k:Nat) (x0:ByteArray) (x1:ByteArray):Option R85:=All.exact_NatGcd.f k x0 x1
noncomputable abbrev FX34 (k:Nat) (x0:TQ):Option R34:=B34 (FX83 k) (FX84 k) (FX85 k) x0
noncomputable abbrev FX50 (k:Nat) (x0:TI):Option R50:=B50 x0
noncomputable abbrev FX108 (k:Nat) (x0:Bool) (x1:ByteArray):Option R108:=All.exact_IntMake.f x0 x1
noncomputable abbrev FX134 (k:Nat) (x0:ByteArray) (x1:ByteArray):Option R134:=All.exact_NatDivMod.f k x0 x1
noncomputable abbrev FX138 (k:Nat) (x0:ByteArray) (x1:ByteArray):Option R138:=All.exact_NatAdd.f k x0 x1
noncomputable abbrev FX143 (k:Nat) (x0:Int):Option R143:=All.exact_NatOf.f k x0
noncomputable abbrev FX144 (k:Nat) (x0:ByteArray) (x1:ByteArray):Option R144:=All.exact_NatSub.f k x0 x1
noncomputable abbrev FX105 (k:Nat) (x0:TI) (x1:TI):Option R105:=All.exact_IntDivMod.f k x0.1 x0.2 x1.1 x1.2
noncomputable abbrev FX51 (k:Nat) (x0:TQ):Option R51:=B51 (FX105 k) x0
noncomputable abbrev FX12 (k:Nat) (x0:TQ):Option R12:=B12 (FX34 k) (FX50 k) (FX51 k) x0
noncomputable abbrev FX93 (k:Nat) (x0:TI):Option R93:=B93 x0
noncomputable abbrev FX145 (k:Nat) (x0:ByteArray) (x1:ByteArray):Option R145:=All.exact_NatCmp.f k x0 x1
noncomputable abbrev FX106 (k:Nat) (x0:TI) (x1:TI):Option R106:=All.exact_IntAdd.f k x0.1 x0.2 x1.1 x1.2
noncomputable abbrev FX107 (k:Nat) (x0:TI) (x1:TI):Option R107:=B107 (FX85 k) (FX108 k) (FX134 k) x0 x1
noncomputable abbrev FX146 (k:Nat) (x0:(List Int)) (x1:(List Int)):Option R146:=All.exact_mulWords.f k x0 x1
noncomputable abbrev FX109 (k:Nat) (x0:ByteArray) (x1:ByteArray):Option R109:=All.exact_NatMul.f k x0 x1
noncomputable abbrev FX52 (k:Nat) (x0:TQ) (x1:TQ):Option R52:=B52 (FX93 k) (FX106 k) (FX107 k) (FX108 k) (FX109 k) x0 x1
noncomputable abbrev FX110 (k:Nat) (x0:Int):Option R110:=All.exact_IntOf.f k x0
noncomputable abbrev FX53 (k:Nat) (x0:Int) (x1:Int):Option R53:=B53 (FX107 k) (FX110 k) x0 x1
noncomputable abbrev FX13 (k:Nat) (x0:TQ):Option R13:=B13 (FX34 k) (FX50 k) (FX51 k) (FX52 k) (FX53 k) x0
noncomputable abbrev FX114 (k:Nat) (x0:ByteArray):Option R114:=All.exact_NatBits.f x0
noncomputable abbrev FX116 (k:Nat) (x0:ByteArray) (x1:Int):Option R116:=All.exact_NatPow.f k x0 x1
noncomputable abbrev FX162 (k:Nat) (x0:Int):Option R162:=All.exact_NatTwo.f x0
noncomputable abbrev FX147 (k:Nat) (x0:ByteArray) (x1:Int):Option R147:=All.exact_NatRoot.f k x0 x1
noncomputable abbrev FX111 (k:Nat) (x0:TI):Option R111:=All.exact_IntSqrt.f k x0.1 x0.2
noncomputable abbrev FX112 (k:Nat) (x0:Int):Option R112:=B112 (FX93 k) (FX110 k) x0
noncomputable abbrev FX54 (k:Nat) (x0:TQ):Option R54:=B54 (FX111 k) (FX112 k) x0
noncomputable abbrev FX14 (k:Nat) (x0:TQ):Option R14:=B14 (FX34 k) (FX54 k) x0
noncomputable abbrev FX57 (k:Nat) (x0:TQ):Option R57:=B57 x0
noncomputable abbrev FX58 (k:Nat) (x0:TQ):Option R58:=B58 x0
noncomputable abbrev FX59 (k:Nat) (x0:ByteArray) (x1:Int):Option R59:=B59 (FX114 k) x0 x1
noncomputable abbrev FX115 (k:Nat) (x0:TI) (x1:Int):Option R115:=B115 (FX108 k) (FX116 k) x0 x1
noncomputable abbrev FX60 (k:Nat) (x0:TQ) (x1:Int):Option R60:=B60 (FX115 k) (FX116 k) x0 x1
noncomputable abbrev FX56 (k:Nat) (x0:(List TQ)) (y500:Int):Option R56:=B56 (FX57 k) (FX58 k) (FX59 k) (FX60 k) x0 y500
noncomputable abbrev FX148 (k:Nat) (x0:TQ):Option R148:=B148 x0
noncomputable abbrev FX113 (k:Nat) (x0:TQ):Option R113:=B113 (FX148 k) x0
noncomputable def GX55Powl0:Nat→(List TQ)→(List TQ)→Int→Int→Int→TQ→Option R55Pow
 |0,_,_,_,_,_,_=>none
 |k+1,x1,x11,x12,x13,y100,x4=>B55Powl0 (GX55Powl0 k) (FX34 k) (FX56 k) (FX113 k) x1 x11 x12 x13 y100 x4
noncomputable abbrev FX55Pow (k:Nat) (x1:(List TQ)) (y100:Int):Option R55Pow:=B55Pow (GX55Powl0 k) x1 y100
noncomputable abbrev FX15 (k:Nat) (x0:TQ) (x1:Int):Option R15:=B15 (FX55Pow k) x0 x1
noncomputable abbrev FX72 (k:Nat) (x0:(List TQ)):Option R72:=B72 (FX52 k) x0
noncomputable def GX55Addl0:Nat→(List TQ)→(List TQ)→Int→Int→TQ→Option R55Add
 |0,_,_,_,_,_=>none
 |k+1,x1,x11,x12,x13,x4=>B55Addl0 (GX55Addl0 k) (FX34 k) (FX72 k) (FX113 k) x1 x11 x12 x13 x4
noncomputable abbrev FX55Add (k:Nat) (x1:(List TQ)):Option R55Add:=B55Add (GX55Addl0 k) x1
noncomputable abbrev FX25 (k:Nat) (x0:TQ) (x1:TQ):Option R25:=B25 (FX55Add k) x0 x1
noncomputable abbrev FX140 (k:Nat) (x0:(List Int)):Option R140:=All.galoisref01_pack.f k x0
noncomputable abbrev FX104 (k:Nat) (x0:Int):Option R104:=All.galoisref01_Of.f k x0
noncomputable abbrev FX49 (k:Nat) (x0:Int):Option R49:=All.galoisref02_FromInt.f k x0
noncomputable abbrev FX141 (k:Nat) (x0:ByteArray):Option R141:=All.galoisref01_limbs.f k x0
noncomputable abbrev FX118 (k:Nat) (x0:ByteArray) (x1:ByteArray):Option R118:=All.galoisref01_DivMod.f k x0 x1
noncomputable abbrev FX64 (k:Nat) (x0:ByteArray) (x1:ByteArray):Option R64:=All.galoisref01_Gcd.f k x0 x1
noncomputable abbrev FX123 (k:Nat) (x0:Bool) (x1:ByteArray):Option R123:=All.galoisref02_Make.f x0 x1
noncomputable abbrev FX90 (k:Nat) (x0:TI) (x1:TI):Option R90:=B90 (FX64 k) (FX118 k) (FX123 k) x0 x1
noncomputable abbrev FX69 (k:Nat) (x0:Int) (x1:Int):Option R69:=B69 (FX49 k) (FX90 k) x0 x1
noncomputable abbrev FX30 (k:Nat) (x0:Int) (x1:Int):Option R30:=B30 (FX69 k) x0 x1
noncomputable abbrev FX168 (k:Nat) (x0:ByteArray) (x1:Int):Option R168:=B168 (FX172 k) x0 x1
noncomputable def GX158l0:Nat→Option R158
 |0=>none
 |k+1=>B158l0
noncomputable abbrev FX158 (k:Nat) (x0:ByteArray) (x1:ByteArray):Option R158:=B158 (FX168 k) x0 x1
noncomputable abbrev FX137 (k:Nat) (x0:ByteArray) (x1:ByteArray):Option R137:=B137 (FX158 k) x0 x1
noncomputable abbrev FX96 (k:Nat) (x0:ByteArray) (x1:ByteArray):Option R96:=B96 (FX137 k) x0 x1
noncomputable abbrev FX139 (k:Nat) (x0:ByteArray):Option R139:=All.natural_bounded.f x0
noncomputable abbrev FX98 (k:Nat) (x0:ByteArray):Option R98:=All.natural_Parse.f k x0
noncomputable abbrev FX97 (k:Nat) (x0:ByteArray):Option R97:=All.integer_Parse.f k x0
noncomputable abbrev FX45 (k:Nat) (x0:ByteArray):Option R45:=B45 (FX34 k) (FX96 k) (FX97 k) (FX98 k) x0
noncomputable abbrev FX48 (k:Nat) (x0:Int) (x1:Int):Option R48:=B48 (FX53 k) x0 x1
noncomputable abbrev FX10 (k:Nat):Option R10:=B10 (FX12 k) (FX13 k) (FX14 k) (FX15 k) (FX25 k) (FX30 k) (FX45 k) (FX48 k) (FX49 k)
noncomputable abbrev FX11 (k:Nat) (x0:TQ) (x1:TQ) (x2:Int):Option R11:=B11 x0 x1 x2
noncomputable abbrev FX62 (k:Nat) (x0:ByteArray):Option R62:=All.galoisref01_Valid.f x0
noncomputable abbrev FX61 (k:Nat) (x0:TI):Option R61:=All.galoisref02_Valid.f x0.1 x0.2
noncomputable abbrev FX117 (k:Nat) (x0:ByteArray):Option R117:=All.galoisref01_Fits.f x0
noncomputable abbrev FX65 (k:Nat) (x0:TI):Option R65:=All.galoisref02_Fits.f x0.1 x0.2
noncomputable abbrev FX63 (k:Nat) (x0:TQ):Option R63:=B63 (FX65 k) (FX117 k) x0
noncomputable abbrev FX16 (k:Nat) (x0:TQ):Option R16:=B16 (FX61 k) (FX62 k) (FX63 k) (FX64 k) x0
noncomputable abbrev FX133 (k:Nat) (x0:(List ByteArray)):Option R133:=All.natural_first.f k x0
noncomputable abbrev FX136 (k:Nat) (x0:ByteArray):Option R136:=All.exact_NatUint.f k x0
noncomputable abbrev FX95 (k:Nat) (x0:ByteArray):Option R95:=All.natural_Format.f k x0
noncomputable abbrev FX94 (k:Nat) (x0:TI):Option R94:=All.integer_Format.f k x0.1 x0.2
noncomputable abbrev FX44 (k:Nat) (x0:TQ):Option R44:=B44 (FX34 k) (FX94 k) (FX95 k) x0
noncomputable def GX99l0:Nat→ByteArray→Int→Option R99
 |0,_,_=>none
 |k+1,x0,x5=>B99l0 (GX99l0 k) x0 x5
noncomputable abbrev FX99 (k:Nat) (x0:ByteArray):Option R99:=B99 (GX99l0 k) x0
noncomputable abbrev FX101 (k:Nat) (x0:ByteArray):Option R101:=All.galoisref01_Digits.f k x0
noncomputable abbrev FX100 (k:Nat) (x0:ByteArray):Option R100:=All.galoisref02_Digits.f k x0
noncomputable abbrev FX46 (k:Nat) (x0:ByteArray):Option R46:=B46 (FX63 k) (FX64 k) (FX99 k) (FX100 k) (FX101 k) x0
noncomputable abbrev FX103 (k:Nat) (x0:ByteArray):Option R103:=All.galoisref01_Format.f k x0
noncomputable abbrev FX102 (k:Nat) (x0:TI):Option R102:=All.galoisref02_Format.f k x0.1 x0.2
noncomputable abbrev FX47 (k:Nat) (x0:TQ):Option R47:=B47 (FX102 k) (FX103 k) x0
end Go.Proofs.YtjllholdppjllaaGreatV
set_option maxRecDepth 10000
namespace Go.Proofs.YtjllholdppjllaaGreatV
open Go Go.RowKit YtjllholdppjllaaGreat YtjllholdppjllaaGreatE YtjllholdppjllaaGreatW.PrintWords YtjllholdppjllaaGreatW.PrintLast YtjllholdppjllaaGreatW.PrintMore
theorem EOK:EnvOk Tryz.prog E0:=⟨by kernel_rfl,by kernel_rfl,by kernel_rfl⟩
theorem HM:Tryz.prog.follows .mixedOrders=true:=Tryz.checked.mixed
section
variable {P:Program} {f:Nat}
theorem ct_one {k:IntKind} {x:Int} {r:V} (h:∀w,CallSem P f #[.int k x] w fun v w'=>w'=w∧∀bl φ,RepV w bl φ r v):Ct P f [.a (.v (.it k) x)] [] r []:=by
 refine⟨(fun q hq=>nomatch hq),fun w0 bl0 φ0 vs _ hm hr=>?_⟩
 cases hr with
 |cons h1 hr=>
  cases hr with
  |nil=>
   rw [rep_it.1 h1]
   exact(h w0).mono fun v w' ⟨e,hv⟩=>⟨φ0,by rw [e];exact Step.refl hm,by rw [e];exact hv _ _⟩
theorem ct_three {k1 k2 k3:IntKind} {x y z:Int} {r:V} (h:∀w,CallSem P f #[.int k1 x, .int k2 y, .int k3 z] w fun v w'=>w'=w∧∀bl φ,RepV w bl φ r v):Ct P f [.a (.v (.it k1) x), .a (.v (.it k2) y), .a (.v (.it k3) z)] [] r []:=by
 refine⟨(fun q hq=>nomatch hq),fun w0 bl0 φ0 vs _ hm hr=>?_⟩
 cases hr with
 |cons h1 hr=>
  cases hr with
  |cons h2 hr=>
   cases hr with
   |cons h3 hr=>
    cases hr with
    |nil=>
     rw [rep_it.1 h1,rep_it.1 h2,rep_it.1 h3]
     exact(h w0).mono fun v w' ⟨e,hv⟩=>⟨φ0,by rw [e];exact Step.refl hm,by rw [e];exact hv _ _⟩
theorem sem_enter {fn:Func} {c:Code} (hf:P.funcs[f]?=some fn) (hname:(fn.name== "runtime.NumGoroutine")=false) (hb:fn.body=some c) {args:Array Value} {w:World} {Q:Value→World→Prop} (h:Calls P f args w fun e w'=>∃v,e= .returned v∧Q v w'):CallSem P f args w Q:=
 Or.inl ⟨by simp only [callFunc,Sem.run_bind,run_program,Result.andThen_ok,hf,hname,hb,Option.isNone_some,Bool.false_eq_true,if_false,Sem.run_pure],h⟩
end
theorem ok159 (k:Nat):FeOk Tryz.prog (fe159 (FX159 k)):=by
 rintro⟨⟨x,y,c,⟨⟩⟩,⟨⟩⟩ o h v hv
 replace h:All.bits_Add64.f x y c=some o:=h
 cases hv
 unfold All.bits_Add64.f at h
 by_cases hc:0≤x∧0≤y∧0≤c∧c≤1
 ·rw [if_pos hc]at h
  cases h
  refine ct_three fun w=>Or.inr ⟨_,w,?_,rfl,fun bl φ=>⟨_,rfl, .cons (rep_it.2 rfl) (.cons (rep_it.2 rfl) .nil)⟩⟩
  show(callFunc 159 #[.int .u64 x, .int .u64 y, .int .u64 c]).run _ w=_
  rw [run_callFunc_extern Tryz.func159 (by kernel_rfl) (by kernel_rfl) (by kernel_rfl) (by kernel_rfl),run_add64 x y c hc.1 hc.2.1 hc.2.2.1 hc.2.2.2]
  rfl
 ·rw [if_neg hc]at h;cases h
theorem sub64_at (x y c:Int) (hx:0≤x) (hy:0≤y) (hc0:0≤c) (hc:c≤1) (w:World):
  (callFunc 160 #[.int .u64 x, .int .u64 y, .int .u64 c]).run Tryz.prog w= .ok (.value (.tuple #[.int .u64 ((x-y-c)%18446744073709551616), .int .u64 (if x<y+c then 1 else 0)])) w∨¬y≤18446744073709551615:=by
 by_cases hym:y≤18446744073709551615
 ·refine Or.inl ?_
  obtain⟨X,rfl⟩:=Int.eq_ofNat_of_zero_le hx
  obtain⟨Y,rfl⟩:=Int.eq_ofNat_of_zero_le hy
  obtain⟨C,rfl⟩:=Int.eq_ofNat_of_zero_le hc0
  rw [run_callFunc_extern Tryz.func160 (by kernel_rfl) (by kernel_rfl) (by kernel_rfl) (by kernel_rfl),run_sub64 X Y C (by omega)]
  have e1:(((X+18446744073709551616-Y-C)%18446744073709551616:Nat):Int)=((X:Int)-Y-C)%18446744073709551616:=by omega
  have e2:((if X<Y+C then 1 else 0:Nat):Int)=if(X:Int)<Y+C then 1 else 0:=by split<;>split<;>omega
  rw [e1,e2]
  rfl
 ·exact Or.inr hym
theorem ok160 (k:Nat):FeOk Tryz.prog (fe160 (FX160 k)):=by
 rintro⟨⟨x,y,c,⟨⟩⟩,⟨⟩⟩ o h v hv
 replace h:All.bits_Sub64.f x y c=some o:=h
 cases hv
 unfold All.bits_Sub64.f at h
 split at h
 ·rename_i hc
  cases h
  refine ct_three fun w=>Or.inr ⟨_,w,?_,rfl,fun bl φ=>⟨_,rfl, .cons (rep_it.2 rfl) (.cons (rep_it.2 rfl) .nil)⟩⟩
  exact(sub64_at x y c hc.1 hc.2.1 hc.2.2.2.1 hc.2.2.2.2 w).resolve_right fun h=>h hc.2.2.1
 ·cases h
theorem ok149 (k:Nat):FeOk Tryz.prog (fe149 (FX149 k)):=by
 rintro⟨⟨x,⟨⟩⟩,⟨⟩⟩ o h v hv
 replace h:All.bits_Len8.f x=some o:=h
 cases hv
 unfold All.bits_Len8.f at h
 split at h
 ·rename_i hc
  cases h
  refine ct_one fun w=>sem_enter (c:=cd149) Tryz.func149 (by kernel_rfl) (by kernel_rfl) ((Go.Proofs.YtjllholdppjllaaGreatX.len8_says x w hc.1 hc.2).mono ?_)
  rintro e w' ⟨rfl,rfl⟩
  exact⟨_,rfl,rfl,fun bl φ=>rep_it.2 rfl⟩
 ·cases h
theorem ok167 (k:Nat):FeOk Tryz.prog (fe167 (FX167 k)):=by
 rintro⟨⟨x,⟨⟩⟩,⟨⟩⟩ o h v hv
 replace h:All.bits_Len64.f x=some o:=h
 cases hv
 unfold All.bits_Len64.f at h
 split at h
 ·rename_i hc
  cases h
  refine ct_one fun w=>sem_enter (c:=cd167) Tryz.func167 (by kernel_rfl) (by kernel_rfl) ((Go.Proofs.YtjllholdppjllaaGreatX.len64_says x w hc.1 hc.2).mono ?_)
  rintro e w' ⟨rfl,rfl⟩
  exact⟨_,rfl,rfl,fun bl φ=>rep_it.2 rfl⟩
 ·cases h
theorem take_leaf {l:List Int} {x:Int} (h0:0≤x) (h1:x≤l.length):(((l.take x.toNat).length:Int),l.take x.toNat++l.drop (l.take x.toNat).length)=(x,l):=by
 have e:(l.take x.toNat).length=x.toNat:=by rw [List.length_take];omega
 rw [e,List.take_append_drop,Int.toNat_of_nonneg h0]
theorem trimV_eq:∀(k:Nat) (l:List Int),All.galoisref01_trimV.f k l=All.galoisref01_trim.f k l
 |0,l=>rfl
 |k+1,l=>by
  have ih:=trimV_eq k
  show All.galoisref01_trimV.l0 (k+1) l=All.galoisref01_trim.l0 (k+1) l
  rw [All.galoisref01_trimV.l0,All.galoisref01_trim.l0]
  have ih':∀l,All.galoisref01_trimV.l0 k l=All.galoisref01_trim.l0 k l:=ih
  simp only [ih']
noncomputable abbrev GX152l0 (k:Nat) (x3:Int) (y0:List Int):Option R152:=(All.exact_trim.l0 k y0 x3).bind fun r=>some ((r.length:Int),r++y0.drop r.length)
theorem b152l0 (k:Nat) (x3:Int) (y0:List Int):LeO (GX152l0 (k+1) x3 y0) (B152l0 (GX152l0 k) x3 y0):=by
 unfold GX152l0
 rw [All.exact_trim.l0]
 unfold B152l0
 simp only [ite_bind_,bind_some_,Option.bind_none]
 repeat' first
 | (with_reducible exact LeO.none _)
 | (with_reducible exact LeO.refl _)
 | (with_reducible refine LeO.posR (by with_reducible assumption) ?_)
 | (with_reducible refine LeO.negR (by with_reducible assumption) ?_)
 | (with_reducible refine LeO.iteL (fun _=>?_) (fun _=>?_))
 | (refine LeO.posR (by first|decide|exact Int.le_refl _|omega) ?_)
 | (rw [take_leaf (by assumption) (by assumption)])
theorem b152 (k:Nat) (y0:List Int):LeO (FX152 k y0) (B152 (GX152l0 k) y0):=LeO.refl _
noncomputable abbrev GX142l0 (k:Nat) (x0:Int) (y0:List Int):Option R142:=if 0≤x0∧x0≤y0.length then(All.galoisref01_trim.l0 k (y0.take x0.toNat)).bind fun r=>some ((r.length:Int),r++y0.drop r.length)else none
theorem rd_take {l:List Int} {x i:Int} (h0:0≤i) (h:i<x):rd (l.take x.toNat) i=rd l i:=by
 unfold rd
 rw [List.getD_eq_getElem?_getD,List.getD_eq_getElem?_getD,List.getElem?_take_of_lt (by omega)]
theorem b142l0 (k:Nat) (x0:Int) (y0:List Int):LeO (GX142l0 (k+1) x0 y0) (B142l0 (GX142l0 k) x0 y0):=by
 unfold GX142l0
 refine LeO.iteL (fun hx=>?_) (fun _=>LeO.none _)
 have e:(((y0.take x0.toNat).length:Nat):Int)=x0:=by rw [List.length_take];omega
 rw [All.galoisref01_trim.l0]
 unfold B142l0
 simp only [ite_bind_,bind_some_,Option.bind_none,e,Int.sub_zero,Int.zero_add]
 refine LeO.iteL (fun h1=>LeO.posR h1 ?_) (fun h1=>LeO.negR h1 ?_)
 ·refine LeO.iteL (fun h2=>LeO.posR h2 ?_) (fun _=>LeO.none _)
  refine LeO.iteL (fun h3=>LeO.posR h3 ?_) (fun _=>LeO.none _)
  rw [rd_take h2 h3]
  refine LeO.iteL (fun h4=>LeO.posR h4 ?_) (fun h4=>LeO.negR h4 ?_)
  ·refine LeO.iteL (fun h5=>?_) (fun _=>LeO.none _)
   refine LeO.posR (Int.le_refl _) (LeO.posR h2 (LeO.posR h5 (LeO.posR (Int.le_refl _) (LeO.posR ⟨h2,by omega⟩ ?_))))
   rw [List.take_take,Nat.min_eq_left (by omega)]
   exact LeO.refl _
  ·have e2:=take_leaf hx.1 hx.2;rw [e]at e2;rw [e2];exact LeO.refl _
 ·have e2:=take_leaf hx.1 hx.2;rw [e]at e2;rw [e2];exact LeO.refl _
theorem b142 (k:Nat) (y0:List Int):LeO (FX142 k y0) (B142 (GX142l0 k) y0):=by
 unfold FX142 B142 GX142l0
 refine LeO.posR ⟨by omega,Int.le_refl _⟩ ?_
 rw [Int.toNat_natCast,List.take_length]
 exact LeO.refl _
noncomputable abbrev GX150l0 (k:Nat) (x0:Int) (x1:List Int) (x5:Int) (y0:List Int):Option R150:=if 0≤x0∧x0≤y0.length then(All.galoisref01_below.l0 k (y0.take x0.toNat) x1 x5).bind fun r=>some (r,y0)else none
theorem b150l0 (k:Nat) (x0:Int) (x1:List Int) (x5:Int) (y0:List Int):LeO (GX150l0 (k+1) x0 x1 x5 y0) (B150l0 (GX150l0 k) x0 x1 x5 y0):=by
 unfold GX150l0
 refine LeO.iteL (fun hx=>?_) (fun _=>LeO.none _)
 have e:(((y0.take x0.toNat).length:Nat):Int)=x0:=by rw [List.length_take];omega
 rw [All.galoisref01_below.l0]
 unfold B150l0
 simp only [ite_bind_,bind_some_,Option.bind_none,e,Int.sub_zero,Int.zero_add,ite_not,ne_eq]
 refine LeO.iteL (fun h1=>LeO.posR h1 ?_) (fun h1=>LeO.negR h1 (LeO.refl _))
 refine LeO.iteL (fun h2=>LeO.posR h2 ?_) (fun _=>LeO.none _)
 refine LeO.iteL (fun h3=>LeO.posR h3 (LeO.posR h2 ?_)) (fun _=>LeO.none _)
 refine LeO.iteL (fun h4=>LeO.posR h4 ?_) (fun _=>LeO.none _)
 rw [rd_take h2 h3]
 refine LeO.iteL (fun h5=>LeO.posR h5 (LeO.posR hx (LeO.refl _))) (fun h5=>LeO.negR h5 ?_)
 exact LeO.posR h2 (LeO.posR h3 (LeO.posR h2 (LeO.posR h4 (LeO.refl _))))
theorem trim_pre:∀(k:Nat) (l r:List Int),All.galoisref01_trim.l0 k l=some r→r++l.drop r.length=l
 |0,l,r,h=>by cases h
 |k+1,l,r,h=>by
  rw [All.galoisref01_trim.l0]at h
  split at h
  ·split at h
   ·split at h
    ·split at h
     ·split at h
      ·rename_i h1 _ _ h2
       have ih:=trim_pre k _ _ h
       have hl:r.length≤(l.take (wrap64 ((l.length:Int)-1)).toNat).length:=by
        have:=congrArg List.length ih
        rw [List.length_append]at this
        omega
       have e:l=l.take (wrap64 ((l.length:Int)-1)).toNat++l.drop (wrap64 ((l.length:Int)-1)).toNat:=(List.take_append_drop _ _).symm
       rw [e,List.drop_append_of_le_length hl,←List.append_assoc]
       rw [ih]
      ·cases h
     ·cases h;rw [List.drop_length,List.append_nil]
    ·cases h
   ·cases h
  ·cases h;rw [List.drop_length,List.append_nil]
theorem b150 (k:Nat) (x1:List Int) (y0:List Int):LeO (FX150 k x1 y0) (B150 (GX150l0 k) (FX142 k) x1 y0):=by
 unfold FX150 B150 FX142 GX150l0 All.galoisref01_below.f
 simp only [trimV_eq,bind_assoc_,bind_some_,ite_bind_,Int.sub_zero,ite_not,ne_eq]
 refine LeO.bindL fun r hr=>LeO.bindR hr ?_
 have e:=trim_pre k y0 r hr
 have hl:(r.length:Int)≤y0.length:=by
  have:=congrArg List.length e
  rw [List.length_append]at this
  omega
 have et:y0.take r.length=r:=by
  have:=congrArg (List.take r.length) e
  rwa [List.take_left,eq_comm]at this
 rw [e]
 refine LeO.iteL (fun h1=>LeO.posR h1 (LeO.posR ⟨by omega,hl⟩ ?_)) (fun h1=>LeO.negR h1 (LeO.refl _))
 rw [Int.toNat_natCast,et]
 exact LeO.refl _
theorem ok172 (k:Nat):FeOk Tryz.prog (fe172 (FX172 k)):=by
 rintro⟨⟨s,c,⟨⟩⟩,⟨⟩⟩ o h v hv
 replace h:some (Lib.indexByte s.data.toList c.toNat.toUInt8)=some o:=h
 cases hv
 cases h
 refine⟨(fun q hq=>nomatch hq),fun w0 bl0 φ0 vs _ hm hr=>?_⟩
 cases hr with
 |cons h1 hr=>
  cases hr with
  |cons h2 hr=>
   cases hr with
   |nil=>
    obtain⟨cs,e1,e2⟩:=h1
    have e1:cs=[.string s]:=e1
    subst e1
    cases e2
    rw [rep_it.1 h2]
    refine Or.inr ⟨_,w0,?_,φ0,Step.refl hm,rep_it.2 rfl⟩
    show(callFunc 172 #[.string s, .int .u8 c]).run _ w0=_
    rw [run_callFunc_extern Tryz.func172 (by kernel_rfl) (by kernel_rfl) (by kernel_rfl) (by kernel_rfl),Lib.run_indexByteString s c w0]
    rfl
end Go.Proofs.YtjllholdppjllaaGreatV
namespace Go.Proofs.YtjllholdppjllaaGreat.All
open YtjllholdppjllaaGreatX
open Go.RowKit YtjllholdppjllaaGreatW.PrintWords YtjllholdppjllaaGreatW.PrintLast YtjllholdppjllaaGreatW.PrintMore
attribute [local go_sem] max2_int min2_int max_two min_two max_three min_three max_four min_four
theorem info5:(Tryz.prog.info? 5).map (fun i=>(i.zero,i.size,i.bytes))=some (some (.int .u8 0),1,1):=by kernel_rfl
theorem natural_Of.bytes_len (a:Int) (k:Nat) (h:k≤8):(natural_Of.bytes a k).length=8:=by simp [natural_Of.bytes];omega
theorem natural_Of.bytes_set (a:Int) (k:Nat) (h:k<8):(natural_Of.bytes a k).set k (natural_Of.byte a k)=natural_Of.bytes a (k+1):=by
 unfold natural_Of.bytes
 rw [List.set_append_right _ _ (by simp)]
 simp only [List.length_map,List.length_range,Nat.sub_self,List.range_succ,List.map_append,List.map_cons,List.map_nil,List.append_assoc]
 congr 1
 obtain⟨m,hm⟩:∃m,8-k=m+1:=⟨7-k,by omega⟩
 rw [hm,show 8-(k+1)=m by omega,List.replicate_succ]
 rfl
theorem natural_Of.made (w:World):Kd.R (Kd.int .u8) 139 (w.alloc (.cells #[.int .u8 0, .int .u8 0, .int .u8 0, .int .u8 0, .int .u8 0, .int .u8 0, .int .u8 0, .int .u8 0] 139)) w.heap.size (fun _=>True) (.slice (some ⟨w.heap.size,0,none⟩) 8 8) (List.replicate 8 0):=
 Kd.R_of_own (own_lit w w.heap.size 139 .u8 (List.replicate 8 0) (Nat.le_refl _) (by simp)) (fun _ _=>trivial)
theorem natural_Of.info5s:(Tryz.prog.info? 5).map (·.size)=some 1:=by kernel_rfl
theorem natural_Of.reads {w:World} {base g:Nat} {ok:Nat→Prop} {a:Int} (h:Kd.R (Kd.int .u8) 139 w base ok (.slice (some ⟨g,0,none⟩) 8 8) (natural_Of.bytes a 8)):Kd.C (Kd.int .u8) w (some ⟨g,0,none⟩) 8 (natural_Of.bytes a 8):=by
 have:=(Kd.R_reads' h).2.2
 rwa [natural_Of.bytes_len a 8 (Nat.le_refl _)]at this
end Go.Proofs.YtjllholdppjllaaGreat.All
