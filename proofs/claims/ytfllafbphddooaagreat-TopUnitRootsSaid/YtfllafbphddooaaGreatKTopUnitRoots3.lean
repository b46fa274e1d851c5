/- Part of the proof of the statement TopUnitRoots: lemmas on the model's steps, Lean functions that say what the program's functions compute, and proofs that the calls do just that. No hypothesis is added. -/
import Derived.Test.YtfllafbphddooaaGreatKTopUnitRoots2
set_option linter.all false
set_option maxRecDepth 100000
namespace Go.Proofs.YtfllafbphddooaaGreatV
open Go Go.RowKit YtfllafbphddooaaGreatE YtfllafbphddooaaGreatW.PrintWords YtfllafbphddooaaGreatW.PrintLast YtfllafbphddooaaGreatW.PrintMore
noncomputable def an200:Ann:=⟨[(4,[(0, .any),(1, .any)])],[],[]⟩
noncomputable def cd200:Code:=(Tryz.f200.body).getD .skip
noncomputable def p200:List Pos:=posns an200 [] cd200
noncomputable def rm200:List RM:=[.d (.it .i64)]
noncomputable def rk200 (s0:SbT ask200.bl):KX R200:=retK E0 Tryz.f200.results.toList rm200 (mkB ask200.bl s0) (decW rsk200 dec200)
noncomputable def k200l0:Sk:=⟨[(0, .d (.it .i64)),(1, .d (.it .i64))],[]⟩
noncomputable def les200 (gl0:Int→Int→Option R200):List (LoE R200):=[⟨4,k200l0,fun s=>gl0 s.1.1 s.1.2.1⟩]
noncomputable def fes200:List FE:=[]
section
variable (gl0:Int→Int→Option R200)
noncomputable def B200l0 (x0:Int) (x1:Int):Option R200:=if x0>0 then(if x0=0 then(none)else(gl0 (Int.tmod x1 x0) x0))else(some x1)
theorem e200l0 (s0:SbT ask200.bl) (s:k200l0.T):evPos E0 (orcOf (fes200)) 20 an200 (loOf (les200 gl0)) (rk200 s0) (p200.getD 0 ⟨0,[], .skip⟩) (k200l0.mk' s)=B200l0 gl0 s.1.1 s.1.2.1:=by kernel_rfl
noncomputable def B200 (x0:Int) (x1:Int):Option R200:=if x1=0 then(none)else(if Int.tmod x0 x1<0 then(gl0 (wrap64 ((Int.tmod x0 x1)+x1)) x1)else(gl0 (Int.tmod x0 x1) x1))
theorem e200 (s:ask200.T):evFn E0 (orcOf (fes200)) an200 (loOf (les200 gl0)) 20 cd200 Tryz.f200.results.toList rm200 (ask200.mk' s) (decW rsk200 dec200)=B200 gl0 s.1.1 s.1.2.1:=by kernel_rfl
end
noncomputable def an197:Ann:=⟨[(3,[(0, .any),(3, .own (.it .i64)),(5, .any),(6, .any)])],[],[]⟩
noncomputable def cd197:Code:=(Tryz.f197.body).getD .skip
noncomputable def p197:List Pos:=posns an197 [] cd197
noncomputable def rm197:List RM:=[.d (.li (.it .i64))]
noncomputable def rk197 (s0:SbT ask197.bl):KX R197:=retK E0 Tryz.f197.results.toList rm197 (mkB ask197.bl s0) (decW rsk197 dec197)
noncomputable def k197l0:Sk:=⟨[(0, .d (.it .i64)),(3, .f (.a (.ref 3))),(5, .d (.it .i64)),(6, .d (.it .i64))],[(3, .own (.it .i64) true)]⟩
noncomputable def les197 (gl0:Int→Int→Int→(List Int)→Option R197):List (LoE R197):=[⟨3,k197l0,fun s=>gl0 s.1.1 s.1.2.1 s.1.2.2.1 s.2.1⟩]
noncomputable def fes197 (c200:Int→Int→Option R200):List FE:=[(fe200 c200)]
section
variable (gl0:Int→Int→Int→(List Int)→Option R197) (c200:Int→Int→Option R200)
noncomputable def B197l0 (x0:Int) (x5:Int) (x6:Int) (x3:(List Int)):Option R197:=if x6<x5 then((c200 x6 x0).bind fun r1=>(if r1=1 then(if(x3.length+1)*8≤140737488355328 then(gl0 x0 x5 (wrap64 (x6+1)) (x3++([x6]:List Int)))else(none))else(gl0 x0 x5 (wrap64 (x6+1)) x3)))else(some x3)
theorem e197l0 (s0:SbT ask197.bl) (s:k197l0.T):evPos E0 (orcOf (fes197 c200)) 19 an197 (loOf (les197 gl0)) (rk197 s0) (p197.getD 0 ⟨0,[], .skip⟩) (k197l0.mk' s)=B197l0 gl0 c200 s.1.1 s.1.2.1 s.1.2.2.1 s.2.1:=by kernel_rfl
noncomputable def B197 (x0:Int):Option R197:=gl0 x0 x0 0 ([]:List Int)
theorem e197 (s:ask197.T):evFn E0 (orcOf (fes197 c200)) an197 (loOf (les197 gl0)) 19 cd197 Tryz.f197.results.toList rm197 (ask197.mk' s) (decW rsk197 dec197)=B197 gl0 s.1.1:=by kernel_rfl
end
noncomputable def an115:Ann:=⟨[(2,[(0, .any),(1, .any),(9, .any),(10, .any),(11, .any)]),(8,[(0, .any),(22, .any),(23, .any),(24, .any)])],[],[]⟩
noncomputable def cd115:Code:=(Tryz.f115.body).getD .skip
noncomputable def p115:List Pos:=posns an115 [] cd115
noncomputable def rm115:List RM:=[.d (.it .i64)]
noncomputable def rk115 (s0:SbT ask115.bl):KX R115:=retK E0 Tryz.f115.results.toList rm115 (mkB ask115.bl s0) (decW rsk115 dec115)
noncomputable def k115l0:Sk:=⟨[(0, .d (.it .i64)),(1, .d (.li (.it .i64))),(9, .d (.li (.it .i64))),(10, .d (.it .i64)),(11, .d (.it .i64))],[]⟩
noncomputable def k115l1:Sk:=⟨[(0, .d (.it .i64)),(22, .d (.li (.it .i64))),(23, .d (.it .i64)),(24, .d (.it .i64))],[]⟩
noncomputable def les115 (gl0:Int→(List Int)→(List Int)→Int→Int→Option R115) (gl1:Int→(List Int)→Int→Int→Option R115):List (LoE R115):=[⟨2,k115l0,fun s=>gl0 s.1.1 s.1.2.1 s.1.2.2.1 s.1.2.2.2.1 s.1.2.2.2.2.1⟩,⟨8,k115l1,fun s=>gl1 s.1.1 s.1.2.1 s.1.2.2.1 s.1.2.2.2.1⟩]
noncomputable def fes115 (c197:Int→Option R197):List FE:=[(fe197 c197)]
section
variable (gl0:Int→(List Int)→(List Int)→Int→Int→Option R115) (gl1:Int→(List Int)→Int→Int→Option R115) (c197:Int→Option R197)
noncomputable def B115l0 (x0:Int) (x1:(List Int)) (x9:(List Int)) (x10:Int) (x11:Int):Option R115:=if x11<x10 then(if 0≤x11 then(if x11<(x9.length:Int)then(if rd x9 x11<1 then(some 3)else(if rd x9 x11>256 then(some 3)else(gl0 x0 x1 x9 x10 (wrap64 (x11+1)))))else(none))else(none))else(gl1 x0 x1 (x1.length:Int) 0)
theorem e115l0 (s0:SbT ask115.bl) (s:k115l0.T):evPos E0 (orcOf (fes115 c197)) 34 an115 (loOf (les115 gl0 gl1)) (rk115 s0) (p115.getD 0 ⟨0,[], .skip⟩) (k115l0.mk' s)=B115l0 gl0 gl1 s.1.1 s.1.2.1 s.1.2.2.1 s.1.2.2.2.1 s.1.2.2.2.2.1:=by kernel_rfl
noncomputable def B115l1 (x0:Int) (x22:(List Int)) (x23:Int) (x24:Int):Option R115:=if x24<x23 then(if 0≤x24 then(if x24<(x22.length:Int)then((c197 (rd x22 x24)).bind fun r1=>(if(r1.length:Int)>x0 then(some 4)else(gl1 x0 x22 x23 (wrap64 (x24+1)))))else(none))else(none))else(some 0)
theorem e115l1 (s0:SbT ask115.bl) (s:k115l1.T):evPos E0 (orcOf (fes115 c197)) 34 an115 (loOf (les115 gl0 gl1)) (rk115 s0) (p115.getD 1 ⟨0,[], .skip⟩) (k115l1.mk' s)=B115l1 gl1 c197 s.1.1 s.1.2.1 s.1.2.2.1 s.1.2.2.2.1:=by kernel_rfl
noncomputable def B115 (x0:Int) (x1:(List Int)):Option R115:=gl0 x0 x1 x1 (x1.length:Int) 0
theorem e115 (s:ask115.T):evFn E0 (orcOf (fes115 c197)) an115 (loOf (les115 gl0 gl1)) 34 cd115 Tryz.f115.results.toList rm115 (ask115.mk' s) (decW rsk115 dec115)=B115 gl0 s.1.1 s.1.2.1:=by kernel_rfl
end
noncomputable def an234v:Ann:=⟨[(2,[(0, .any),(3, .any)])],[],[]⟩
noncomputable def cd234v:Code:=(Tryz.f234.body).getD .skip
noncomputable def p234v:List Pos:=posns an234v [] cd234v
noncomputable def rm234v:List RM:=[.sh]
noncomputable def rk234v (s0:SbT ask234v.bl):KX R234v:=retK E0 Tryz.f234.results.toList rm234v (mkB ask234v.bl s0) (decW rsk234v dec234v)
noncomputable def k234vl0:Sk:=⟨[(0, .d (.li (.it .u64))),(3, .d (.it .i64))],[]⟩
noncomputable def les234v (gl0:(List Int)→Int→Option R234v):List (LoE R234v):=[⟨2,k234vl0,fun s=>gl0 s.1.1 s.1.2.1⟩]
noncomputable def fes234v:List FE:=[]
section
variable (gl0:(List Int)→Int→Option R234v)
noncomputable def B234vl0 (x0:(List Int)) (x3:Int):Option R234v:=if x3>0 then(if 0≤wrap64 (x3-1)then(if wrap64 (x3-1)<(x0.length:Int)then(if rd x0 (wrap64 (x3-1))=0 then(gl0 x0 (wrap64 (x3-1)))else(if(0:Int)≤0 then(if 0≤x3 then(if x3≤(x0.length:Int)then(if(x0.length:Int)≤(x0.length:Int)then(some (slice_ x0 0 x3))else(none))else(none))else(none))else(none)))else(none))else(none))else(if(0:Int)≤0 then(if 0≤x3 then(if x3≤(x0.length:Int)then(if(x0.length:Int)≤(x0.length:Int)then(some (slice_ x0 0 x3))else(none))else(none))else(none))else(none))
theorem e234vl0 (s0:SbT ask234v.bl) (s:k234vl0.T):evPos E0 (orcOf (fes234v)) 21 an234v (loOf (les234v gl0)) (rk234v s0) (p234v.getD 0 ⟨0,[], .skip⟩) (k234vl0.mk' s)=B234vl0 gl0 s.1.1 s.1.2.1:=by kernel_rfl
noncomputable def B234v (x0:(List Int)):Option R234v:=gl0 x0 (x0.length:Int)
theorem e234v (s:ask234v.T):evFn E0 (orcOf (fes234v)) an234v (loOf (les234v gl0)) 21 cd234v Tryz.f234.results.toList rm234v (ask234v.mk' s) (decW rsk234v dec234v)=B234v gl0 s.1.1:=by kernel_rfl
end
noncomputable def an192:Ann:=⟨[(6,[(3, .any),(17, .any),(18, .any),(19, .any)]),(9,[(3, .any),(4, .any),(5, .any),(17, .any),(18, .any),(19, .any),(24, .any)]),(15,[(3, .any),(7, .any)])],[],[]⟩
noncomputable def cd192:Code:=(Tryz.f192.body).getD .skip
noncomputable def p192:List Pos:=posns an192 [] cd192
noncomputable def rm192:List RM:=[.d .st]
noncomputable def rk192 (s0:SbT ask192.bl):KX R192:=retK E0 Tryz.f192.results.toList rm192 (mkB ask192.bl s0) (decW rsk192 dec192)
noncomputable def k192l0:Sk:=⟨[(3, .f (.a (.ref 3))),(17, .d (.li (.it .u64))),(18, .d (.it .i64)),(19, .d (.it .i64))],[(3, .own (.it .u8) true)]⟩
noncomputable def k192l1:Sk:=⟨[(3, .f (.a (.ref 3))),(4, .d (.it .i64)),(5, .d (.it .u64)),(17, .d (.li (.it .u64))),(18, .d (.it .i64)),(19, .d (.it .i64)),(24, .d (.it .i64))],[(3, .own (.it .u8) true)]⟩
noncomputable def k192l2:Sk:=⟨[(3, .f (.a (.ref 3))),(7, .d (.it .i64))],[(3, .own (.it .u8) true)]⟩
noncomputable def les192 (gl0:(List Int)→Int→Int→(List Int)→Option R192) (gl1:Int→Int→(List Int)→Int→Int→Int→(List Int)→Option R192) (gl2:Int→(List Int)→Option R192):List (LoE R192):=[⟨6,k192l0,fun s=>gl0 s.1.1 s.1.2.1 s.1.2.2.1 s.2.1⟩,⟨9,k192l1,fun s=>gl1 s.1.1 s.1.2.1 s.1.2.2.1 s.1.2.2.2.1 s.1.2.2.2.2.1 s.1.2.2.2.2.2.1 s.2.1⟩,⟨15,k192l2,fun s=>gl2 s.1.1 s.2.1⟩]
noncomputable def fes192 (c234v:(List Int)→Option R234v):List FE:=[(fe234v c234v)]
section
variable (gl0:(List Int)→Int→Int→(List Int)→Option R192) (gl1:Int→Int→(List Int)→Int→Int→Int→(List Int)→Option R192) (gl2:Int→(List Int)→Option R192) (c234v:(List Int)→Option R234v)
noncomputable def B192l0 (x17:(List Int)) (x18:Int) (x19:Int) (x3:(List Int)):Option R192:=if x19<x18 then(if 0≤x19 then(if x19<(x17.length:Int)then(gl1 x19 (rd x17 x19) x17 x18 x19 0 x3)else(none))else(none))else(gl2 0 x3)
theorem e192l0 (s0:SbT ask192.bl) (s:k192l0.T):evPos E0 (orcOf (fes192 c234v)) 55 an192 (loOf (les192 gl0 gl1 gl2)) (rk192 s0) (p192.getD 0 ⟨0,[], .skip⟩) (k192l0.mk' s)=B192l0 gl1 gl2 s.1.1 s.1.2.1 s.1.2.2.1 s.2.1:=by kernel_rfl
noncomputable def B192l1 (x4:Int) (x5:Int) (x17:(List Int)) (x18:Int) (x19:Int) (x24:Int) (x3:(List Int)):Option R192:=if x24<8 then(if 0≤wrap64 (8*x24)then(if 0≤wrap64 ((wrap64 ((wrap64 ((x3.length:Int)-1))-(wrap64 (8*x4))))-x24)then(if wrap64 ((wrap64 ((wrap64 ((x3.length:Int)-1))-(wrap64 (8*x4))))-x24)<(x3.length:Int)then(gl1 x4 x5 x17 x18 x19 (wrap64 (x24+1)) (x3.set (wrap64 ((wrap64 ((wrap64 ((x3.length:Int)-1))-(wrap64 (8*x4))))-x24):Int).toNat (IntKind.u8.wrap (shr .u64 x5 (wrap64 (8*x24))))))else(none))else(none))else(none))else(gl0 x17 x18 (wrap64 (x19+1)) x3)
theorem e192l1 (s0:SbT ask192.bl) (s:k192l1.T):evPos E0 (orcOf (fes192 c234v)) 55 an192 (loOf (les192 gl0 gl1 gl2)) (rk192 s0) (p192.getD 1 ⟨0,[], .skip⟩) (k192l1.mk' s)=B192l1 gl0 gl1 s.1.1 s.1.2.1 s.1.2.2.1 s.1.2.2.2.1 s.1.2.2.2.2.1 s.1.2.2.2.2.2.1 s.2.1:=by kernel_rfl
noncomputable def B192l2 (x7:Int) (x3:(List Int)):Option R192:=if 0≤x7 then(if x7<(x3.length:Int)then(if rd x3 x7=0 then(gl2 (wrap64 (x7+1)) x3)else(if 0≤x7 then(if x7≤(x3.length:Int)then(if(x3.length:Int)≤(x3.length:Int)then(if(x3.length:Int)≤(x3.length:Int)then(some (strOfNums (slice_ x3 x7 (x3.length:Int))))else(none))else(none))else(none))else(none)))else(none))else(none)
theorem e192l2 (s0:SbT ask192.bl) (s:k192l2.T):evPos E0 (orcOf (fes192 c234v)) 55 an192 (loOf (les192 gl0 gl1 gl2)) (rk192 s0) (p192.getD 2 ⟨0,[], .skip⟩) (k192l2.mk' s)=B192l2 gl2 s.1.1 s.2.1:=by kernel_rfl
noncomputable def B192 (x0:(List Int)):Option R192:=(c234v x0).bind fun r1=>(if(r1.length:Int)=0 then(some (⟨#[]⟩:ByteArray))else(if 0≤wrap64 (8*(r1.length:Int))then(if wrap64 (8*(r1.length:Int))≤wrap64 (8*(r1.length:Int))then(if(wrap64 (8*(r1.length:Int)):Int).toNat≤281474976710656 then(gl0 r1 (r1.length:Int) 0 (List.replicate (wrap64 (8*(r1.length:Int)):Int).toNat (0:Int)))else(none))else(none))else(none)))
theorem e192 (s:ask192.T):evFn E0 (orcOf (fes192 c234v)) an192 (loOf (les192 gl0 gl1 gl2)) 55 cd192 Tryz.f192.results.toList rm192 (ask192.mk' s) (decW rsk192 dec192)=B192 gl0 c234v s.1.1:=by kernel_rfl
end
noncomputable def an108:Ann:=⟨[],[],[]⟩
noncomputable def cd108:Code:=(Tryz.f108.body).getD .skip
noncomputable def rm108:List RM:=[.d .st]
noncomputable def les108:List (LoE R108):=[]
noncomputable def fes108 (c192:(List Int)→Option R192):List FE:=[(fe192 c192)]
section
variable (c192:(List Int)→Option R192)
noncomputable def B108 (x0:Int):Option R108:=(c192 ([x0]:List Int)).bind fun r1=>(some r1)
theorem e108 (s:ask108.T):evFn E0 (orcOf (fes108 c192)) an108 (loOf (les108)) 6 cd108 Tryz.f108.results.toList rm108 (ask108.mk' s) (decW rsk108 dec108)=B108 c192 s.1.1:=by kernel_rfl
end
noncomputable def an57:Ann:=⟨[],[],[]⟩
noncomputable def cd57:Code:=(Tryz.f57.body).getD .skip
noncomputable def rm57:List RM:=[.d (.ag (.pr .bo .st))]
noncomputable def les57:List (LoE R57):=[]
noncomputable def fes57 (c108:Int→Option R108):List FE:=[(fe108 c108)]
section
variable (c108:Int→Option R108)
noncomputable def B57 (x0:Int):Option R57:=if x0<0 then((c108 (IntKind.u64.wrap (0-(IntKind.u64.wrap (x0))))).bind fun r1=>(some (true,r1)))else((c108 (IntKind.u64.wrap (x0))).bind fun r2=>(some (false,r2)))
theorem e57 (s:ask57.T):evFn E0 (orcOf (fes57 c108)) an57 (loOf (les57)) 14 cd57 Tryz.f57.results.toList rm57 (ask57.mk' s) (decW rsk57 dec57)=B57 c108 s.1.1:=by kernel_rfl
end
noncomputable def an159:Ann:=⟨[],[],[]⟩
noncomputable def cd159:Code:=(Tryz.f159.body).getD .skip
noncomputable def rm159:List RM:=[.d (.ag (.pr (.ag (.pr .bo .st)) .st))]
noncomputable def les159:List (LoE R159):=[]
noncomputable def fes159:List FE:=[]
noncomputable def B159 (x0:TI):Option R159:=some (x0,(⟨#[1]⟩:ByteArray))
theorem e159 (s:ask159.T):evFn E0 (orcOf (fes159)) an159 (loOf (les159)) 5 cd159 Tryz.f159.results.toList rm159 (ask159.mk' s) (decW rsk159 dec159)=B159 s.1.1:=by kernel_rfl
noncomputable def an122:Ann:=⟨[],[],[]⟩
noncomputable def cd122:Code:=(Tryz.f122.body).getD .skip
noncomputable def rm122:List RM:=[.d (.ag (.pr (.ag (.pr .bo .st)) .st))]
noncomputable def les122:List (LoE R122):=[]
noncomputable def fes122 (c57:Int→Option R57) (c159:TI→Option R159):List FE:=[(fe57 c57),(fe159 c159)]
section
variable (c57:Int→Option R57) (c159:TI→Option R159)
noncomputable def B122 (x0:Int):Option R122:=(c57 x0).bind fun r1=>((c159 (r1.1,r1.2)).bind fun r2=>(some (r2.1,r2.2)))
theorem e122 (s:ask122.T):evFn E0 (orcOf (fes122 c57 c159)) an122 (loOf (les122)) 6 cd122 Tryz.f122.results.toList rm122 (ask122.mk' s) (decW rsk122 dec122)=B122 c57 c159 s.1.1:=by kernel_rfl
end
noncomputable def an78:Ann:=⟨[],[],[]⟩
noncomputable def cd78:Code:=(Tryz.f78.body).getD .skip
noncomputable def rm78:List RM:=[.d .bo]
noncomputable def les78:List (LoE R78):=[]
noncomputable def fes78:List FE:=[]
noncomputable def B78 (x0:TQ):Option R78:=some (eqS x0.1.2 (⟨#[]⟩:ByteArray))
theorem e78 (s:ask78.T):evFn E0 (orcOf (fes78)) an78 (loOf (les78)) 7 cd78 Tryz.f78.results.toList rm78 (ask78.mk' s) (decW rsk78 dec78)=B78 s.1.1:=by kernel_rfl
noncomputable def an123:Ann:=⟨[(2,[(0, .any),(3, .any)])],[],[]⟩
noncomputable def cd123:Code:=(Tryz.f123.body).getD .skip
noncomputable def p123:List Pos:=posns an123 [] cd123
noncomputable def rm123:List RM:=[.d (.li (.ag (.pr (.ag (.pr .bo .st)) .st)))]
noncomputable def rk123 (s0:SbT ask123.bl):KX R123:=retK E0 Tryz.f123.results.toList rm123 (mkB ask123.bl s0) (decW rsk123 dec123)
noncomputable def k123l0:Sk:=⟨[(0, .d (.li (.ag (.pr (.ag (.pr .bo .st)) .st)))),(3, .d (.it .i64))],[]⟩
noncomputable def les123 (gl0:(List TQ)→Int→Option R123):List (LoE R123):=[⟨2,k123l0,fun s=>gl0 s.1.1 s.1.2.1⟩]
noncomputable def fes123 (c78:TQ→Option R78):List FE:=[(fe78 c78)]
section
variable (gl0:(List TQ)→Int→Option R123) (c78:TQ→Option R78)
noncomputable def B123l0 (x0:(List TQ)) (x3:Int):Option R123:=if x3>0 then(if 0≤wrap64 (x3-1)then(if wrap64 (x3-1)<(x0.length:Int)then((c78 (rdOf ((false,(⟨#[]⟩:ByteArray)),(⟨#[]⟩:ByteArray)) x0 (wrap64 (x3-1)))).bind fun r1=>(cnd (r1) (gl0 x0 (wrap64 (x3-1))) (if(0:Int)≤0 then(if 0≤x3 then(if x3≤x3 then(if x3≤(x0.length:Int)then(some (slice_ x0 0 x3))else(none))else(none))else(none))else(none))))else(none))else(none))else(if(0:Int)≤0 then(if 0≤x3 then(if x3≤x3 then(if x3≤(x0.length:Int)then(some (slice_ x0 0 x3))else(none))else(none))else(none))else(none))
theorem e123l0 (s0:SbT ask123.bl) (s:k123l0.T):evPos E0 (orcOf (fes123 c78)) 22 an123 (loOf (les123 gl0)) (rk123 s0) (p123.getD 0 ⟨0,[], .skip⟩) (k123l0.mk' s)=B123l0 gl0 c78 s.1.1 s.1.2.1:=by kernel_rfl
noncomputable def B123 (x0:(List TQ)):Option R123:=gl0 x0 (x0.length:Int)
theorem e123 (s:ask123.T):evFn E0 (orcOf (fes123 c78)) an123 (loOf (les123 gl0)) 22 cd123 Tryz.f123.results.toList rm123 (ask123.mk' s) (decW rsk123 dec123)=B123 gl0 s.1.1:=by kernel_rfl
end
noncomputable def an201:Ann:=⟨[(3,[(3, .any),(9, .any),(10, .any),(11, .any)])],[],[]⟩
noncomputable def cd201:Code:=(Tryz.f201.body).getD .skip
noncomputable def p201:List Pos:=posns an201 [] cd201
noncomputable def rm201:List RM:=[.d (.li (.ag (.pr (.ag (.pr .bo .st)) .st)))]
noncomputable def rk201 (s0:SbT ask201.bl):KX R201:=retK E0 Tryz.f201.results.toList rm201 (mkB ask201.bl s0) (decW rsk201 dec201)
noncomputable def k201l0:Sk:=⟨[(3, .f (.a (.ref 3))),(9, .d (.li (.it .i64))),(10, .d (.it .i64)),(11, .d (.it .i64))],[(3, .own (.ag (.pr (.ag (.pr .bo .st)) .st)) true)]⟩
noncomputable def les201 (gl0:(List Int)→Int→Int→(List TQ)→Option R201):List (LoE R201):=[⟨3,k201l0,fun s=>gl0 s.1.1 s.1.2.1 s.1.2.2.1 s.2.1⟩]
noncomputable def fes201 (c122:Int→Option R122) (c123:(List TQ)→Option R123):List FE:=[(fe122 c122),(fe123 c123)]
section
variable (gl0:(List Int)→Int→Int→(List TQ)→Option R201) (c122:Int→Option R122) (c123:(List TQ)→Option R123)
noncomputable def B201l0 (x9:(List Int)) (x10:Int) (x11:Int) (x3:(List TQ)):Option R201:=if x11<x10 then(if 0≤x11 then(if x11<(x9.length:Int)then((c122 (rd x9 x11)).bind fun r1=>(if 0≤x11 then(if x11<(x3.length:Int)then(gl0 x9 x10 (wrap64 (x11+1)) (x3.set (x11:Int).toNat (r1.1,r1.2)))else(none))else(none)))else(none))else(none))else((c123 x3).bind fun r2=>(some r2))
theorem e201l0 (s0:SbT ask201.bl) (s:k201l0.T):evPos E0 (orcOf (fes201 c122 c123)) 24 an201 (loOf (les201 gl0)) (rk201 s0) (p201.getD 0 ⟨0,[], .skip⟩) (k201l0.mk' s)=B201l0 gl0 c122 c123 s.1.1 s.1.2.1 s.1.2.2.1 s.2.1:=by kernel_rfl
noncomputable def B201 (x0:(List Int)):Option R201:=if 0≤(x0.length:Int)then(if(x0.length:Int)≤(x0.length:Int)then(if((x0.length:Int):Int).toNat≤7036874417766 then(gl0 x0 (x0.length:Int) 0 (List.replicate ((x0.length:Int):Int).toNat ((false,(⟨#[]⟩:ByteArray)),(⟨#[]⟩:ByteArray))))else(none))else(none))else(none)
theorem e201 (s:ask201.T):evFn E0 (orcOf (fes201 c122 c123)) an201 (loOf (les201 gl0)) 24 cd201 Tryz.f201.results.toList rm201 (ask201.mk' s) (decW rsk201 dec201)=B201 gl0 s.1.1:=by kernel_rfl
end
noncomputable def an268n:Ann:=⟨[],[],[]⟩
noncomputable def cd268n:Code:=(Tryz.f268.body).getD .skip
noncomputable def rm268n:List RM:=[.own (.it .i64)]
noncomputable def les268n:List (LoE R268n):=[]
noncomputable def fes268n:List FE:=[]
noncomputable def B268n (x0:(List Int)):Option R268n:=some ([]:List Int)
theorem e268n (s:ask268n.T):evFn E0 (orcOf (fes268n)) an268n (loOf (les268n)) 8 cd268n Tryz.f268.results.toList rm268n (ask268n.mk' s) (decW rsk268n dec268n)=B268n s.1.1:=by kernel_rfl
noncomputable def an268m:Ann:=⟨[],[],[]⟩
noncomputable def cd268m:Code:=(Tryz.f268.body).getD .skip
noncomputable def rm268m:List RM:=[.own (.it .i64)]
noncomputable def les268m:List (LoE R268m):=[]
noncomputable def fes268m:List FE:=[]
noncomputable def B268m (x0:(List Int)):Option R268m:=if(([]:List Int).length+x0.length)*8≤140737488355328 then(some (([]:List Int)++x0))else(none)
theorem e268m (s:ask268m.T):evFn E0 (orcOf (fes268m)) an268m (loOf (les268m)) 8 cd268m Tryz.f268.results.toList rm268m (ask268m.mk' s) (decW rsk268m dec268m)=B268m s.1.1:=by kernel_rfl
noncomputable def an240:Ann:=⟨[(2,[(0, .val (.li (.it .i64))),(13, .any),(14, .any),(15, .any)]),(7,[(6, .any),(7, .any),(8, .any),(9, .any),(10, .any),(13, .any),(14, .any),(15, .any)]),(11,[(6, .any),(7, .any),(8, .any),(9, .any),(10, .any),(13, .any),(14, .any),(15, .any),(45, .any),(46, .any),(47, .any)])],[],[]⟩
noncomputable def cd240:Code:=(Tryz.f240.body).getD .skip
noncomputable def p240:List Pos:=posns an240 [] cd240
noncomputable def rm240:List RM:=[.d (.li (.it .i64))]
noncomputable def rk240 (s0:SbT ask240.bl):KX R240:=retK E0 Tryz.f240.results.toList rm240 (mkB ask240.bl s0) (decW rsk240 dec240)
noncomputable def k240l0:Sk:=⟨[(0, .d (.li (.it .i64))),(13, .d (.li (.li (.it .i64)))),(14, .d (.it .i64)),(15, .d (.it .i64))],[]⟩
noncomputable def k240l1:Sk:=⟨[(6, .d (.li (.it .i64))),(7, .f (.a (.ref 7))),(8, .d (.it .i64)),(9, .f (.a (.ref 9))),(10, .d (.it .i64)),(13, .d (.li (.li (.it .i64)))),(14, .d (.it .i64)),(15, .d (.it .i64))],[(7, .own (.it .i64) true),(9, .own (.it .i64) true)]⟩
noncomputable def k240l2:Sk:=⟨[(6, .d (.li (.it .i64))),(7, .f (.a (.ref 7))),(8, .d (.it .i64)),(9, .f (.a (.ref 9))),(10, .d (.it .i64)),(13, .d (.li (.li (.it .i64)))),(14, .d (.it .i64)),(15, .d (.it .i64)),(45, .d (.li (.it .i64))),(46, .d (.it .i64)),(47, .d (.it .i64))],[(7, .own (.it .i64) true),(9, .own (.it .i64) true)]⟩
noncomputable def les240 (gl0:(List Int)→(List (List Int))→Int→Int→Option R240) (gl1:(List Int)→Int→Int→(List (List Int))→Int→Int→(List Int)→(List Int)→Option R240) (gl2:(List Int)→Int→Int→(List (List Int))→Int→Int→(List Int)→Int→Int→(List Int)→(List Int)→Option R240):List (LoE R240):=[⟨2,k240l0,fun s=>gl0 s.1.1 s.1.2.1 s.1.2.2.1 s.1.2.2.2.1⟩,⟨7,k240l1,fun s=>gl1 s.1.1 s.1.2.1 s.1.2.2.1 s.1.2.2.2.1 s.1.2.2.2.2.1 s.1.2.2.2.2.2.1 s.2.1 s.2.2.1⟩,⟨11,k240l2,fun s=>gl2 s.1.1 s.1.2.1 s.1.2.2.1 s.1.2.2.2.1 s.1.2.2.2.2.1 s.1.2.2.2.2.2.1 s.1.2.2.2.2.2.2.1 s.1.2.2.2.2.2.2.2.1 s.1.2.2.2.2.2.2.2.2.1 s.2.1 s.2.2.1⟩]
noncomputable def fes240 (c268:(List Int)→Option R268):List FE:=[(fe268 c268)]
section
variable (gl0:(List Int)→(List (List Int))→Int→Int→Option R240) (gl1:(List Int)→Int→Int→(List (List Int))→Int→Int→(List Int)→(List Int)→Option R240) (gl2:(List Int)→Int→Int→(List (List Int))→Int→Int→(List Int)→Int→Int→(List Int)→(List Int)→Option R240) (c268:(List Int)→Option R268)
noncomputable def B240l0 (x0:(List Int)) (x13:(List (List Int))) (x14:Int) (x15:Int):Option R240:=if x15<x14 then(if 0≤x15 then(if x15<(x13.length:Int)then((c268 x0).bind fun r1=>(if 0≤wrap64 ((x0.length:Int)-(wrap64 (((rdOf ([]:List Int) x13 x15).length:Int)-1)))then(if wrap64 ((x0.length:Int)-(wrap64 (((rdOf ([]:List Int) x13 x15).length:Int)-1)))≤wrap64 ((x0.length:Int)-(wrap64 (((rdOf ([]:List Int) x13 x15).length:Int)-1)))then(if(wrap64 ((x0.length:Int)-(wrap64 (((rdOf ([]:List Int) x13 x15).length:Int)-1))):Int).toNat≤35184372088832 then(gl1 (rdOf ([]:List Int) x13 x15) (wrap64 (((rdOf ([]:List Int) x13 x15).length:Int)-1)) (wrap64 (((List.replicate (wrap64 ((x0.length:Int)-(wrap64 (((rdOf ([]:List Int) x13 x15).length:Int)-1))):Int).toNat (0:Int)).length:Int)-1)) x13 x14 x15 r1 (List.replicate (wrap64 ((x0.length:Int)-(wrap64 (((rdOf ([]:List Int) x13 x15).length:Int)-1))):Int).toNat (0:Int)))else(none))else(none))else(none)))else(none))else(none))else(some x0)
theorem e240l0 (s0:SbT ask240.bl) (s:k240l0.T):evPos E0 (orcOf (fes240 c268)) 70 an240 (loOf (les240 gl0 gl1 gl2)) (rk240 s0) (p240.getD 0 ⟨0,[], .skip⟩) (k240l0.mk' s)=B240l0 gl1 c268 s.1.1 s.1.2.1 s.1.2.2.1 s.1.2.2.2.1:=by kernel_rfl
noncomputable def B240l1 (x6:(List Int)) (x8:Int) (x10:Int) (x13:(List (List Int))) (x14:Int) (x15:Int) (x7:(List Int)) (x9:(List Int)):Option R240:=if x10≥0 then(if 0≤wrap64 (x10+x8)then(if wrap64 (x10+x8)<(x7.length:Int)then(if 0≤x10 then(if x10<(x9.length:Int)then(gl2 x6 x8 x10 x13 x14 x15 x6 (x6.length:Int) 0 x7 (x9.set (x10:Int).toNat (rd x7 (wrap64 (x10+x8)))))else(none))else(none))else(none))else(none))else(gl0 x9 x13 x14 (wrap64 (x15+1)))
theorem e240l1 (s0:SbT ask240.bl) (s:k240l1.T):evPos E0 (orcOf (fes240 c268)) 70 an240 (loOf (les240 gl0 gl1 gl2)) (rk240 s0) (p240.getD 1 ⟨0,[], .skip⟩) (k240l1.mk' s)=B240l1 gl0 gl2 s.1.1 s.1.2.1 s.1.2.2.1 s.1.2.2.2.1 s.1.2.2.2.2.1 s.1.2.2.2.2.2.1 s.2.1 s.2.2.1:=by kernel_rfl
noncomputable def B240l2 (x6:(List Int)) (x8:Int) (x10:Int) (x13:(List (List Int))) (x14:Int) (x15:Int) (x45:(List Int)) (x46:Int) (x47:Int) (x7:(List Int)) (x9:(List Int)):Option R240:=if x47<x46 then(if 0≤x47 then(if x47<(x45.length:Int)then(if 0≤wrap64 (x10+x47)then(if wrap64 (x10+x47)<(x7.length:Int)then(if 0≤x10 then(if x10<(x9.length:Int)then(if 0≤wrap64 (x10+x47)then(if wrap64 (x10+x47)<(x7.length:Int)then(gl2 x6 x8 x10 x13 x14 x15 x45 x46 (wrap64 (x47+1)) (x7.set (wrap64 (x10+x47):Int).toNat (wrap64 ((rd x7 (wrap64 (x10+x47)))-(wrap64 ((rd x9 x10)*(rd x45 x47)))))) x9)else(none))else(none))else(none))else(none))else(none))else(none))else(none))else(none))else(gl1 x6 x8 (wrap64 (x10-1)) x13 x14 x15 x7 x9)
theorem e240l2 (s0:SbT ask240.bl) (s:k240l2.T):evPos E0 (orcOf (fes240 c268)) 70 an240 (loOf (les240 gl0 gl1 gl2)) (rk240 s0) (p240.getD 2 ⟨0,[], .skip⟩) (k240l2.mk' s)=B240l2 gl1 gl2 s.1.1 s.1.2.1 s.1.2.2.1 s.1.2.2.2.1 s.1.2.2.2.2.1 s.1.2.2.2.2.2.1 s.1.2.2.2.2.2.2.1 s.1.2.2.2.2.2.2.2.1 s.1.2.2.2.2.2.2.2.2.1 s.2.1 s.2.2.1:=by kernel_rfl
noncomputable def B240 (x0:(List Int)) (x1:(List (List Int))):Option R240:=gl0 x0 x1 (x1.length:Int) 0
theorem e240 (s:ask240.T):evFn E0 (orcOf (fes240 c268)) an240 (loOf (les240 gl0 gl1 gl2)) 70 cd240 Tryz.f240.results.toList rm240 (ask240.mk' s) (decW rsk240 dec240)=B240 gl0 s.1.1 s.1.2.1:=by kernel_rfl
end
noncomputable def an202:Ann:=⟨[(5,[(0, .any),(3, .any),(4, .own (.li (.it .i64))),(5, .any)])],[],[]⟩
noncomputable def cd202:Code:=(Tryz.f202.body).getD .skip
noncomputable def p202:List Pos:=posns an202 [] cd202
noncomputable def rm202:List RM:=[.d (.li (.it .i64))]
noncomputable def rk202 (s0:SbT ask202.bl):KX R202:=retK E0 Tryz.f202.results.toList rm202 (mkB ask202.bl s0) (decW rsk202 dec202)
noncomputable def k202l0:Sk:=⟨[(0, .d (.it .i64)),(3, .f (.a (.ref 3))),(4, .f (.a (.ref 4))),(5, .d (.it .i64))],[(3, .own (.it .i64) true),(4, .own (.li (.it .i64)) true)]⟩
noncomputable def les202 (gl0:Int→Int→(List Int)→(List (List Int))→Option R202):List (LoE R202):=[⟨5,k202l0,fun s=>gl0 s.1.1 s.1.2.1 s.2.1 s.2.2.1⟩]
noncomputable def fes202 (c202:Int→Option R202) (c240:(List Int)→(List (List Int))→Option R240):List FE:=[(fe202 c202),(fe240 c240)]
section
variable (gl0:Int→Int→(List Int)→(List (List Int))→Option R202) (c202:Int→Option R202) (c240:(List Int)→(List (List Int))→Option R240)
noncomputable def B202l0 (x0:Int) (x5:Int) (x3:(List Int)) (x4:(List (List Int))):Option R202:=if x5<x0 then(if x5=0 then(none)else(if Int.tmod x0 x5=0 then((c202 x5).bind fun r1=>(if(x4.length+1)*24≤140737488355328 then(gl0 x0 (wrap64 (x5+1)) x3 (x4++([r1]:List (List Int))))else(none)))else(gl0 x0 (wrap64 (x5+1)) x3 x4)))else((c240 x3 x4).bind fun r2=>(some r2))
theorem e202l0 (s0:SbT ask202.bl) (s:k202l0.T):evPos E0 (orcOf (fes202 c202 c240)) 31 an202 (loOf (les202 gl0)) (rk202 s0) (p202.getD 0 ⟨0,[], .skip⟩) (k202l0.mk' s)=B202l0 gl0 c202 c240 s.1.1 s.1.2.1 s.2.1 s.2.2.1:=by kernel_rfl
noncomputable def B202 (x0:Int):Option R202:=if 0≤wrap64 (x0+1)then(if wrap64 (x0+1)≤wrap64 (x0+1)then(if(wrap64 (x0+1):Int).toNat≤35184372088832 then(if(0:Int)≤0 then(if 0<((List.replicate (wrap64 (x0+1):Int).toNat (0:Int)).length:Int)then(if 0≤x0 then(if x0<(((List.replicate (wrap64 (x0+1):Int).toNat (0:Int)).set (0:Int).toNat (-1)).length:Int)then(gl0 x0 1 (((List.replicate (wrap64 (x0+1):Int).toNat (0:Int)).set (0:Int).toNat (-1)).set (x0:Int).toNat 1) ([]:List (List Int)))else(none))else(none))else(none))else(none))else(none))else(none))else(none)
theorem e202 (s:ask202.T):evFn E0 (orcOf (fes202 c202 c240)) an202 (loOf (les202 gl0)) 31 cd202 Tryz.f202.results.toList rm202 (ask202.mk' s) (decW rsk202 dec202)=B202 gl0 s.1.1:=by kernel_rfl
end
noncomputable def an117:Ann:=⟨[],[],[]⟩
noncomputable def cd117:Code:=(Tryz.f117.body).getD .skip
noncomputable def rm117:List RM:=[.d (.ag (.li (.ag (.pr (.ag (.pr .bo .st)) .st))))]
noncomputable def les117:List (LoE R117):=[]
noncomputable def fes117 (c201:(List Int)→Option R201) (c202:Int→Option R202):List FE:=[(fe201 c201),(fe202 c202)]
section
variable (c201:(List Int)→Option R201) (c202:Int→Option R202)
noncomputable def B117 (x0:Int):Option R117:=(c202 x0).bind fun r1=>((c201 r1).bind fun r2=>(some r2))
theorem e117 (s:ask117.T):evFn E0 (orcOf (fes117 c201 c202)) an117 (loOf (les117)) 7 cd117 Tryz.f117.results.toList rm117 (ask117.mk' s) (decW rsk117 dec117)=B117 c201 c202 s.1.1:=by kernel_rfl
end
noncomputable def an43:Ann:=⟨[],[],[]⟩
noncomputable def cd43:Code:=(Tryz.f43.body).getD .skip
noncomputable def rm43:List RM:=[.d (.ag (.li (.ag (.pr (.ag (.pr .bo .st)) .st)))), .d (.it .i64)]
noncomputable def les43:List (LoE R43):=[]
noncomputable def fes43 (c115:Int→(List Int)→Option R115) (c117:Int→Option R117):List FE:=[(fe115 c115),(fe117 c117)]
section
variable (c115:Int→(List Int)→Option R115) (c117:Int→Option R117)
noncomputable def B43 (x0:Int):Option R43:=(c115 24 ([x0]:List Int)).bind fun r1=>(if r1≠0 then(some (([]:List TQ),r1))else((c117 x0).bind fun r2=>(some (r2,0))))
theorem e43 (s:ask43.T):evFn E0 (orcOf (fes43 c115 c117)) an43 (loOf (les43)) 14 cd43 Tryz.f43.results.toList rm43 (ask43.mk' s) (decW rsk43 dec43)=B43 c115 c117 s.1.1:=by kernel_rfl
end
noncomputable def an180:Ann:=⟨[(3,[(0, .any),(3, .own (.it .u8)),(4, .any)]),(6,[(0, .any),(3, .own (.it .u8)),(4, .any),(5, .any)])],[],[]⟩
noncomputable def cd180:Code:=(Tryz.f180.body).getD .skip
noncomputable def p180:List Pos:=posns an180 [] cd180
noncomputable def rm180:List RM:=[.d .st]
noncomputable def rk180 (s0:SbT ask180.bl):KX R180:=retK E0 Tryz.f180.results.toList rm180 (mkB ask180.bl s0) (decW rsk180 dec180)
noncomputable def k180l0:Sk:=⟨[(0, .d (.li (.it .u64))),(3, .f (.a (.ref 3))),(4, .d (.it .i64))],[(3, .own (.it .u8) true)]⟩
noncomputable def k180l1:Sk:=⟨[(0, .d (.li (.it .u64))),(3, .f (.a (.ref 3))),(4, .d (.it .i64)),(5, .d (.it .i64))],[(3, .own (.it .u8) true)]⟩
noncomputable def les180 (gl0:(List Int)→Int→(List Int)→Option R180) (gl1:(List Int)→Int→Int→(List Int)→Option R180):List (LoE R180):=[⟨3,k180l0,fun s=>gl0 s.1.1 s.1.2.1 s.2.1⟩,⟨6,k180l1,fun s=>gl1 s.1.1 s.1.2.1 s.1.2.2.1 s.2.1⟩]
noncomputable def fes180:List FE:=[]
section
variable (gl0:(List Int)→Int→(List Int)→Option R180) (gl1:(List Int)→Int→Int→(List Int)→Option R180)
noncomputable def B180l0 (x0:(List Int)) (x4:Int) (x3:(List Int)):Option R180:=if x4≥0 then(gl1 x0 x4 24 x3)else(some (strOfNums x3))
theorem e180l0 (s0:SbT ask180.bl) (s:k180l0.T):evPos E0 (orcOf (fes180)) 38 an180 (loOf (les180 gl0 gl1)) (rk180 s0) (p180.getD 0 ⟨0,[], .skip⟩) (k180l0.mk' s)=B180l0 gl1 s.1.1 s.1.2.1 s.2.1:=by kernel_rfl
noncomputable def B180l1 (x0:(List Int)) (x4:Int) (x5:Int) (x3:(List Int)):Option R180:=if x5≥0 then(if 0≤x4 then(if x4<(x0.length:Int)then(if 0≤x5 then(if(x3.length:Int)>0 then(if(x3.length+1)*1≤140737488355328 then(gl1 x0 x4 (wrap64 (x5-8)) (x3++([IntKind.u8.wrap (shr .u64 (rd x0 x4) x5)]:List Int)))else(none))else(if IntKind.u8.wrap (shr .u64 (rd x0 x4) x5)>0 then(if(x3.length+1)*1≤140737488355328 then(gl1 x0 x4 (wrap64 (x5-8)) (x3++([IntKind.u8.wrap (shr .u64 (rd x0 x4) x5)]:List Int)))else(none))else(gl1 x0 x4 (wrap64 (x5-8)) x3)))else(none))else(none))else(none))else(gl0 x0 (wrap64 (x4-1)) x3)
theorem e180l1 (s0:SbT ask180.bl) (s:k180l1.T):evPos E0 (orcOf (fes180)) 38 an180 (loOf (les180 gl0 gl1)) (rk180 s0) (p180.getD 1 ⟨0,[], .skip⟩) (k180l1.mk' s)=B180l1 gl0 gl1 s.1.1 s.1.2.1 s.1.2.2.1 s.2.1:=by kernel_rfl
noncomputable def B180 (x0:(List Int)):Option R180:=gl0 x0 (wrap64 ((x0.length:Int)-1)) ([]:List Int)
theorem e180 (s:ask180.T):evFn E0 (orcOf (fes180)) an180 (loOf (les180 gl0 gl1)) 38 cd180 Tryz.f180.results.toList rm180 (ask180.mk' s) (decW rsk180 dec180)=B180 gl0 s.1.1:=by kernel_rfl
end
noncomputable def an93:Ann:=⟨[],[],[]⟩
noncomputable def cd93:Code:=(Tryz.f93.body).getD .skip
noncomputable def rm93:List RM:=[.d .st]
noncomputable def les93:List (LoE R93):=[]
noncomputable def fes93 (c180:(List Int)→Option R180):List FE:=[(fe180 c180)]
section
variable (c180:(List Int)→Option R180)
noncomputable def B93 (x0:Int):Option R93:=if(0:Int)≤32 then((c180 ([Go.bits .and .u64 x0 4294967295,x0/4294967296]:List Int)).bind fun r1=>(some r1))else(none)
theorem e93 (s:ask93.T):evFn E0 (orcOf (fes93 c180)) an93 (loOf (les93)) 9 cd93 Tryz.f93.results.toList rm93 (ask93.mk' s) (decW rsk93 dec93)=B93 c180 s.1.1:=by kernel_rfl
end
noncomputable def an25:Ann:=⟨[],[],[]⟩
noncomputable def cd25:Code:=(Tryz.f25.body).getD .skip
noncomputable def rm25:List RM:=[.d (.ag (.pr .bo .st))]
noncomputable def les25:List (LoE R25):=[]
noncomputable def fes25 (c93:Int→Option R93):List FE:=[(fe93 c93)]
section
variable (c93:Int→Option R93)
noncomputable def B25 (x0:Int):Option R25:=if x0<0 then((c93 (IntKind.u64.wrap ((IntKind.u64.wrap (wrap64 (0-(wrap64 (x0+1)))))+1))).bind fun r1=>(some (true,r1)))else((c93 (IntKind.u64.wrap (x0))).bind fun r2=>(some (false,r2)))
theorem e25 (s:ask25.T):evFn E0 (orcOf (fes25 c93)) an25 (loOf (les25)) 16 cd25 Tryz.f25.results.toList rm25 (ask25.mk' s) (decW rsk25 dec25)=B25 c93 s.1.1:=by kernel_rfl
end
noncomputable def an14:Ann:=⟨[],[],[]⟩
noncomputable def cd14:Code:=(Tryz.f14.body).getD .skip
noncomputable def rm14:List RM:=[.d (.ag (.pr (.ag (.pr .bo .st)) .st))]
noncomputable def les14:List (LoE R14):=[]
noncomputable def fes14 (c25:Int→Option R25):List FE:=[(fe25 c25)]
section
variable (c25:Int→Option R25)
noncomputable def B14 (x0:Int):Option R14:=(c25 x0).bind fun r1=>(some ((r1.1,r1.2),(⟨#[1]⟩:ByteArray)))
theorem e14 (s:ask14.T):evFn E0 (orcOf (fes14 c25)) an14 (loOf (les14)) 6 cd14 Tryz.f14.results.toList rm14 (ask14.mk' s) (decW rsk14 dec14)=B14 c25 s.1.1:=by kernel_rfl
end
noncomputable def an248:Ann:=⟨[],[],[]⟩
noncomputable def cd248:Code:=(Tryz.f248.body).getD .skip
noncomputable def rm248:List RM:=[.d (.it .i64)]
noncomputable def les248:List (LoE R248):=[]
noncomputable def fes248:List FE:=[]
noncomputable def B248 (x0:TI):Option R248:=cnd (x0.1) (some (-1)) (cnd ((eqS x0.2 (⟨#[]⟩:ByteArray))) (some 0) (some 1))
theorem e248 (s:ask248.T):evFn E0 (orcOf (fes248)) an248 (loOf (les248)) 10 cd248 Tryz.f248.results.toList rm248 (ask248.mk' s) (decW rsk248 dec248)=B248 s.1.1:=by kernel_rfl
noncomputable def an213:Ann:=⟨[],[],[]⟩
noncomputable def cd213:Code:=(Tryz.f213.body).getD .skip
noncomputable def rm213:List RM:=[.d (.it .i64)]
noncomputable def les213:List (LoE R213):=[]
noncomputable def fes213 (c248:TI→Option R248):List FE:=[(fe248 c248)]
section
variable (c248:TI→Option R248)
noncomputable def B213 (x0:TQ):Option R213:=(c248 x0.1).bind fun r1=>(some r1)
theorem e213 (s:ask213.T):evFn E0 (orcOf (fes213 c248)) an213 (loOf (les213)) 6 cd213 Tryz.f213.results.toList rm213 (ask213.mk' s) (decW rsk213 dec213)=B213 c248 s.1.1:=by kernel_rfl
end
noncomputable def an132:Ann:=⟨[(2,[(0, .any),(3, .any)])],[],[]⟩
noncomputable def cd132:Code:=(Tryz.f132.body).getD .skip
noncomputable def p132:List Pos:=posns an132 [] cd132
noncomputable def rm132:List RM:=[.d (.li (.ag (.pr (.ag (.pr .bo .st)) .st)))]
noncomputable def rk132 (s0:SbT ask132.bl):KX R132:=retK E0 Tryz.f132.results.toList rm132 (mkB ask132.bl s0) (decW rsk132 dec132)
noncomputable def k132l0:Sk:=⟨[(0, .d (.li (.ag (.pr (.ag (.pr .bo .st)) .st)))),(3, .d (.it .i64))],[]⟩
noncomputable def les132 (gl0:(List TQ)→Int→Option R132):List (LoE R132):=[⟨2,k132l0,fun s=>gl0 s.1.1 s.1.2.1⟩]
noncomputable def fes132 (c213:TQ→Option R213):List FE:=[(fe213 c213)]
section
variable (gl0:(List TQ)→Int→Option R132) (c213:TQ→Option R213)
noncomputable def B132l0 (x0:(List TQ)) (x3:Int):Option R132:=if x3>0 then(if 0≤wrap64 (x3-1)then(if wrap64 (x3-1)<(x0.length:Int)then((c213 (rdOf ((false,(⟨#[]⟩:ByteArray)),(⟨#[]⟩:ByteArray)) x0 (wrap64 (x3-1)))).bind fun r1=>(if r1=0 then(gl0 x0 (wrap64 (x3-1)))else(if(0:Int)≤0 then(if 0≤x3 then(if x3≤(x0.length:Int)then(if(x0.length:Int)≤(x0.length:Int)then(if(([]:List TQ).length+(slice_ x0 0 x3).length)*40≤140737488355328 then(some (([]:List TQ)++(slice_ x0 0 x3)))else(none))else(none))else(none))else(none))else(none))))else(none))else(none))else(if(0:Int)≤0 then(if 0≤x3 then(if x3≤(x0.length:Int)then(if(x0.length:Int)≤(x0.length:Int)then(if(([]:List TQ).length+(slice_ x0 0 x3).length)*40≤140737488355328 then(some (([]:List TQ)++(slice_ x0 0 x3)))else(none))else(none))else(none))else(none))else(none))
theorem e132l0 (s0:SbT ask132.bl) (s:k132l0.T):evPos E0 (orcOf (fes132 c213)) 24 an132 (loOf (les132 gl0)) (rk132 s0) (p132.getD 0 ⟨0,[], .skip⟩) (k132l0.mk' s)=B132l0 gl0 c213 s.1.1 s.1.2.1:=by kernel_rfl
noncomputable def B132 (x0:(List TQ)):Option R132:=gl0 x0 (x0.length:Int)
theorem e132 (s:ask132.T):evFn E0 (orcOf (fes132 c213)) an132 (loOf (les132 gl0)) 24 cd132 Tryz.f132.results.toList rm132 (ask132.mk' s) (decW rsk132 dec132)=B132 gl0 s.1.1:=by kernel_rfl
end
noncomputable def an46:Ann:=⟨[(3,[(3, .own (.ag (.pr (.ag (.pr .bo .st)) .st))),(6, .any),(7, .any),(8, .any)])],[],[]⟩
noncomputable def cd46:Code:=(Tryz.f46.body).getD .skip
noncomputable def p46:List Pos:=posns an46 [] cd46
noncomputable def rm46:List RM:=[.d (.li (.ag (.pr (.ag (.pr .bo .st)) .st)))]
noncomputable def rk46 (s0:SbT ask46.bl):KX R46:=retK E0 Tryz.f46.results.toList rm46 (mkB ask46.bl s0) (decW rsk46 dec46)
noncomputable def k46l0:Sk:=⟨[(3, .f (.a (.ref 3))),(6, .d (.li (.it .i64))),(7, .d (.it .i64)),(8, .d (.it .i64))],[(3, .own (.ag (.pr (.ag (.pr .bo .st)) .st)) true)]⟩
noncomputable def les46 (gl0:(List Int)→Int→Int→(List TQ)→Option R46):List (LoE R46):=[⟨3,k46l0,fun s=>gl0 s.1.1 s.1.2.1 s.1.2.2.1 s.2.1⟩]
noncomputable def fes46 (c14:Int→Option R14) (c132:(List TQ)→Option R132):List FE:=[(fe14 c14),(fe132 c132)]
section
variable (gl0:(List Int)→Int→Int→(List TQ)→Option R46) (c14:Int→Option R14) (c132:(List TQ)→Option R132)
noncomputable def B46l0 (x6:(List Int)) (x7:Int) (x8:Int) (x3:(List TQ)):Option R46:=if x8<x7 then(if 0≤x8 then(if x8<(x6.length:Int)then((c14 (rd x6 x8)).bind fun r1=>(if(x3.length+1)*40≤140737488355328 then(gl0 x6 x7 (wrap64 (x8+1)) (x3++([(r1.1,r1.2)]:List TQ)))else(none)))else(none))else(none))else((c132 x3).bind fun r2=>(some r2))
theorem e46l0 (s0:SbT ask46.bl) (s:k46l0.T):evPos E0 (orcOf (fes46 c14 c132)) 20 an46 (loOf (les46 gl0)) (rk46 s0) (p46.getD 0 ⟨0,[], .skip⟩) (k46l0.mk' s)=B46l0 gl0 c14 c132 s.1.1 s.1.2.1 s.1.2.2.1 s.2.1:=by kernel_rfl
noncomputable def B46 (x0:(List Int)):Option R46:=gl0 x0 (x0.length:Int) 0 ([]:List TQ)
theorem e46 (s:ask46.T):evFn E0 (orcOf (fes46 c14 c132)) an46 (loOf (les46 gl0)) 20 cd46 Tryz.f46.results.toList rm46 (ask46.mk' s) (decW rsk46 dec46)=B46 gl0 s.1.1:=by kernel_rfl
end
noncomputable def an8:Ann:=⟨[],[],[]⟩
noncomputable def cd8:Code:=(Tryz.f8.body).getD .skip
noncomputable def rm8:List RM:=[.d .bo]
noncomputable def les8:List (LoE R8):=[]
noncomputable def fes8 (c40:(List TQ)→(List TQ)→Option R40) (c43:Int→Option R43) (c46:(List Int)→Option R46):List FE:=[(fe40 c40),(fe43 c43),(fe46 c46)]
section
variable (c40:(List TQ)→(List TQ)→Option R40) (c43:Int→Option R43) (c46:(List Int)→Option R46)
noncomputable def B8:Option R8:=(c43 5).bind fun r1=>(if r1.2=0 then((c46 ([1,1,1,1,1]:List Int)).bind fun r2=>((c40 r1.1 r2).bind fun r3=>(some r3)))else(some false))
theorem e8 (s:ask8.T):evFn E0 (orcOf (fes8 c40 c43 c46)) an8 (loOf (les8)) 16 cd8 Tryz.f8.results.toList rm8 (ask8.mk' s) (decW rsk8 dec8)=B8 c40 c43 c46:=by kernel_rfl
end
noncomputable def an52:Ann:=⟨[(2,[(5, .any),(6, .any),(7, .any)])],[],[]⟩
noncomputable def cd52:Code:=(Tryz.f52.body).getD .skip
noncomputable def p52:List Pos:=posns an52 [] cd52
noncomputable def rm52:List RM:=[.d (.it .i64)]
noncomputable def rk52 (s0:SbT ask52.bl):KX R52:=retK E0 Tryz.f52.results.toList rm52 (mkB ask52.bl s0) (decW rsk52 dec52)
noncomputable def k52l0:Sk:=⟨[(5, .d (.li (.it .i64))),(6, .d (.it .i64)),(7, .d (.it .i64))],[]⟩
noncomputable def les52 (gl0:(List Int)→Int→Int→Option R52):List (LoE R52):=[⟨2,k52l0,fun s=>gl0 s.1.1 s.1.2.1 s.1.2.2.1⟩]
noncomputable def fes52:List FE:=[]
section
variable (gl0:(List Int)→Int→Int→Option R52)
noncomputable def B52l0 (x5:(List Int)) (x6:Int) (x7:Int):Option R52:=if x7<x6 then(if 0≤x7 then(if x7<(x5.length:Int)then(if rd x5 x7>100000 then(some 4)else(if rd x5 x7<(-100000)then(some 4)else(gl0 x5 x6 (wrap64 (x7+1)))))else(none))else(none))else(some 0)
theorem e52l0 (s0:SbT ask52.bl) (s:k52l0.T):evPos E0 (orcOf (fes52)) 18 an52 (loOf (les52 gl0)) (rk52 s0) (p52.getD 0 ⟨0,[], .skip⟩) (k52l0.mk' s)=B52l0 gl0 s.1.1 s.1.2.1 s.1.2.2.1:=by kernel_rfl
noncomputable def B52 (x0:(List Int)):Option R52:=gl0 x0 (x0.length:Int) 0
theorem e52 (s:ask52.T):evFn E0 (orcOf (fes52)) an52 (loOf (les52 gl0)) 18 cd52 Tryz.f52.results.toList rm52 (ask52.mk' s) (decW rsk52 dec52)=B52 gl0 s.1.1:=by kernel_rfl
end
noncomputable def an137:Ann:=⟨[],[],[]⟩
noncomputable def cd137:Code:=(Tryz.f137.body).getD .skip
noncomputable def rm137:List RM:=[.d (.it .i64)]
noncomputable def les137:List (LoE R137):=[]
noncomputable def fes137:List FE:=[]
noncomputable def B137 (x0:Int):Option R137:=some (Go.bits .and .i64 x0 3)
theorem e137 (s:ask137.T):evFn E0 (orcOf (fes137)) an137 (loOf (les137)) 5 cd137 Tryz.f137.results.toList rm137 (ask137.mk' s) (decW rsk137 dec137)=B137 s.1.1:=by kernel_rfl
noncomputable def an138:Ann:=⟨[(3,[(0, .any),(4, .any),(5, .any)]),(5,[(0, .any),(4, .any),(5, .any)])],[],[]⟩
noncomputable def cd138:Code:=(Tryz.f138.body).getD .skip
noncomputable def p138:List Pos:=posns an138 [] cd138
noncomputable def rm138:List RM:=[.d (.it .i64), .d (.it .i64)]
noncomputable def rk138 (s0:SbT ask138.bl):KX R138:=retK E0 Tryz.f138.results.toList rm138 (mkB ask138.bl s0) (decW rsk138 dec138)
noncomputable def k138l0:Sk:=⟨[(0, .d (.it .i64)),(4, .d (.it .i64)),(5, .d (.it .i64))],[]⟩
noncomputable def k138l1:Sk:=⟨[(0, .d (.it .i64)),(4, .d (.it .i64)),(5, .d (.it .i64))],[]⟩
noncomputable def les138 (gl0:Int→Int→Int→Option R138) (gl1:Int→Int→Int→Option R138):List (LoE R138):=[⟨3,k138l0,fun s=>gl0 s.1.1 s.1.2.1 s.1.2.2.1⟩,⟨5,k138l1,fun s=>gl1 s.1.1 s.1.2.1 s.1.2.2.1⟩]
noncomputable def fes138:List FE:=[]
section
variable (gl0:Int→Int→Int→Option R138) (gl1:Int→Int→Int→Option R138)
noncomputable def B138l0 (x0:Int) (x4:Int) (x5:Int):Option R138:=if wrap64 (x5*x5)≤mx x0 (wrap64 (0-x0))then(gl1 x0 x4 x5)else(some (x0,x4))
theorem e138l0 (s0:SbT ask138.bl) (s:k138l0.T):evPos E0 (orcOf (fes138)) 32 an138 (loOf (les138 gl0 gl1)) (rk138 s0) (p138.getD 0 ⟨0,[], .skip⟩) (k138l0.mk' s)=B138l0 gl1 s.1.1 s.1.2.1 s.1.2.2.1:=by kernel_rfl
noncomputable def B138l1 (x0:Int) (x4:Int) (x5:Int):Option R138:=if wrap64 (x5*x5)=0 then(none)else(if Int.tmod x0 (wrap64 (x5*x5))=0 then(if wrap64 (x5*x5)=0 then(none)else(gl1 (wrap64 (Int.tdiv x0 (wrap64 (x5*x5)))) (wrap64 (x4*x5)) x5))else(gl0 x0 x4 (wrap64 (x5+1))))
theorem e138l1 (s0:SbT ask138.bl) (s:k138l1.T):evPos E0 (orcOf (fes138)) 32 an138 (loOf (les138 gl0 gl1)) (rk138 s0) (p138.getD 1 ⟨0,[], .skip⟩) (k138l1.mk' s)=B138l1 gl0 gl1 s.1.1 s.1.2.1 s.1.2.2.1:=by kernel_rfl
noncomputable def B138 (x0:Int):Option R138:=gl0 x0 1 2
theorem e138 (s:ask138.T):evFn E0 (orcOf (fes138)) an138 (loOf (les138 gl0 gl1)) 32 cd138 Tryz.f138.results.toList rm138 (ask138.mk' s) (decW rsk138 dec138)=B138 gl0 s.1.1:=by kernel_rfl
end
noncomputable def an53:Ann:=⟨[],[],[]⟩
noncomputable def cd53:Code:=(Tryz.f53.body).getD .skip
noncomputable def rm53:List RM:=[.d .bo]
noncomputable def les53:List (LoE R53):=[]
noncomputable def fes53 (c137:Int→Option R137) (c138:Int→Option R138):List FE:=[(fe137 c137),(fe138 c138)]
section
variable (c137:Int→Option R137) (c138:Int→Option R138)
noncomputable def B53 (x0:Int):Option R53:=if x0=0 then(some false)else(if x0=1 then(some false)else((c137 x0).bind fun r1=>(if r1=1 then((c138 x0).bind fun r2=>(some (decide (r2.2=1))))else((c137 x0).bind fun r3=>(if r3≠0 then(some false)else(if(4:Int)=0 then(none)else((c138 (wrap64 (Int.tdiv x0 4))).bind fun r4=>(if r4.2=1 then((c137 (wrap64 (Int.tdiv x0 4))).bind fun r5=>(some (decide (r5>1))))else(some false)))))))))
theorem e53 (s:ask53.T):evFn E0 (orcOf (fes53 c137 c138)) an53 (loOf (les53)) 41 cd53 Tryz.f53.results.toList rm53 (ask53.mk' s) (decW rsk53 dec53)=B53 c137 c138 s.1.1:=by kernel_rfl
end
noncomputable def an54:Ann:=⟨[],[],[]⟩
noncomputable def cd54:Code:=(Tryz.f54.body).getD .skip
noncomputable def rm54:List RM:=[.fn]
noncomputable def les54:List (LoE R54):=[]
noncomputable def fes54:List FE:=[]
noncomputable def B54 (x0:Int):Option R54:=some (x0,())
theorem e54 (s:ask54.T):evFn E0 (orcOf (fes54)) an54 (loOf (les54)) 4 cd54 Tryz.f54.results.toList rm54 (ask54.mk' s) (decW rsk54 dec54)=B54 s.1.1:=by kernel_rfl
noncomputable def an9:Ann:=⟨[(7,[(1, .any),(2, .any),(3, .any),(4, .any),(34, .any)])],[],[]⟩
noncomputable def cd9:Code:=(Tryz.f9.body).getD .skip
noncomputable def rm9:List RM:=[.d (.ag (.pr (.ag (.pr .bo .st)) (.ag (.pr .bo .st)))), .d (.it .i64), .d (.it .i64)]
noncomputable def k9l0:Sk:=⟨[(1, .f (.a (.ptr 1 0 []))),(2, .f (.a (.ptr 2 0 []))),(3, .f (.a (.ptr 3 0 []))),(4, .f (.a (.ptr 4 0 []))),(34, .cl 139 [(.it .i64)])],[(1, .cell (.it .i64) true),(2, .cell (.ag (.pr (.ag (.pr .bo .st)) (.ag (.pr .bo .st)))) true),(3, .cell (.it .i64) true),(4, .cell (.it .i64) true)]⟩
noncomputable def les9 (gl0:(Int×Unit)→Int→(TI×TI)→Int→Int→Option R9):List (LoE R9):=[⟨7,k9l0,fun s=>gl0 s.1.1 s.2.1 s.2.2.1 s.2.2.2.1 s.2.2.2.2.1⟩]
noncomputable def fes9 (c52:(List Int)→Option R52) (c53:Int→Option R53) (c54:Int→Option R54):List FE:=[(fe52 c52),(fe53 c53),(fe54 c54)]
section
variable (gl0:(Int×Unit)→Int→(TI×TI)→Int→Int→Option R9) (c52:(List Int)→Option R52) (c53:Int→Option R53) (c54:Int→Option R54)
noncomputable def B9 (x0:Int):Option R9:=(c52 ([x0]:List Int)).bind fun r1=>(if r1=0 then(if x0<1 then(some ((false,(⟨#[]⟩:ByteArray)),(false,(⟨#[]⟩:ByteArray)),0,3))else(if x0>1000 then(some ((false,(⟨#[]⟩:ByteArray)),(false,(⟨#[]⟩:ByteArray)),0,3))else((c53 x0).bind fun r2=>(cnd ((!r2)) (some ((false,(⟨#[]⟩:ByteArray)),(false,(⟨#[]⟩:ByteArray)),0,3)) (if r1≠0 then(some ((false,(⟨#[]⟩:ByteArray)),(false,(⟨#[]⟩:ByteArray)),0,r1))else((c54 x0).bind fun r3=>(gl0 (r3.1,()) x0 ((false,(⟨#[]⟩:ByteArray)),(false,(⟨#[]⟩:ByteArray))) 0 0)))))))else(if r1≠0 then(some ((false,(⟨#[]⟩:ByteArray)),(false,(⟨#[]⟩:ByteArray)),0,r1))else((c54 x0).bind fun r4=>(gl0 (r4.1,()) x0 ((false,(⟨#[]⟩:ByteArray)),(false,(⟨#[]⟩:ByteArray))) 0 0))))
theorem e9 (s:ask9.T):evFn E0 (orcOf (fes9 c52 c53 c54)) an9 (loOf (les9 gl0)) 80 cd9 Tryz.f9.results.toList rm9 (ask9.mk' s) (decW rsk9 dec9)=B9 gl0 c52 c53 c54 s.1.1:=by kernel_rfl
end
noncomputable def an59:Ann:=⟨[],[],[]⟩
noncomputable def cd59:Code:=(Tryz.f59.body).getD .skip
noncomputable def rm59:List RM:=[.d .bo]
noncomputable def les59:List (LoE R59):=[]
noncomputable def fes59:List FE:=[]
noncomputable def B59 (x0:ByteArray):Option R59:=cnd ((eqS x0 (⟨#[]⟩:ByteArray))) (some true) (if(0:Int)≤0 then(if 0<(x0.size:Int)then(some (decide (bt x0 0≠0)))else(none))else(none))
theorem e59 (s:ask59.T):evFn E0 (orcOf (fes59)) an59 (loOf (les59)) 10 cd59 Tryz.f59.results.toList rm59 (ask59.mk' s) (decW rsk59 dec59)=B59 s.1.1:=by kernel_rfl
noncomputable def an10:Ann:=⟨[],[],[]⟩
noncomputable def cd10:Code:=(Tryz.f10.body).getD .skip
noncomputable def rm10:List RM:=[.d .bo]
noncomputable def les10:List (LoE R10):=[]
noncomputable def fes10 (c59:ByteArray→Option R59):List FE:=[(fe59 c59)]
section
variable (c59:ByteArray→Option R59)
noncomputable def B10 (x0:TI):Option R10:=(c59 x0.2).bind fun r1=>(cnd (r1) (cnd ((!x0.1)) (some true) (some (!(eqS x0.2 (⟨#[]⟩:ByteArray))))) (some false))
theorem e10 (s:ask10.T):evFn E0 (orcOf (fes10 c59)) an10 (loOf (les10)) 16 cd10 Tryz.f10.results.toList rm10 (ask10.mk' s) (decW rsk10 dec10)=B10 c59 s.1.1:=by kernel_rfl
end
noncomputable def an253:Ann:=⟨[(1,[(0, .pt)])],[],[]⟩
noncomputable def cd253:Code:=(Tryz.f253.body).getD .skip
noncomputable def p253:List Pos:=posns an253 [] cd253
noncomputable def rm253:List RM:=[.sh]
noncomputable def rk253 (s0:SbT ask253.bl):KX R253:=retK E0 Tryz.f253.results.toList rm253 (mkB ask253.bl s0) (decW rsk253 dec253)
noncomputable def k253l0:Sk:=⟨[(0, .pre 2000)],[(2000, .own (.it .u64) false)]⟩
noncomputable def les253 (gl0:Int→(List Int)→Option R253):List (LoE R253):=[⟨1,k253l0,fun s=>gl0 s.1.1 s.2.1⟩]
noncomputable def fes253:List FE:=[]
section
variable (gl0:Int→(List Int)→Option R253)
noncomputable def B253l0 (x0:Int) (y0:(List Int)):Option R253:=if x0-0>0 then(if 0≤wrap64 ((x0-0)-1)then(if wrap64 ((x0-0)-1)<x0-0 then(if rd y0 (0+(wrap64 ((x0-0)-1)))=0 then(if(0:Int)≤0 then(if 0≤wrap64 ((x0-0)-1)then(if wrap64 ((x0-0)-1)≤x0-0 then(if x0-0≤x0-0 then(gl0 (0+(wrap64 ((x0-0)-1))) y0)else(none))else(none))else(none))else(none))else(some (x0,y0)))else(none))else(none))else(some (x0,y0))
theorem e253l0 (s0:SbT ask253.bl) (s:k253l0.T):evPos E0 (orcOf (fes253)) 21 an253 (loOf (les253 gl0)) (rk253 s0) (p253.getD 0 ⟨0,[], .skip⟩) (k253l0.mk' s)=B253l0 gl0 s.1.1 s.2.1:=by kernel_rfl
noncomputable def B253 (y0:(List Int)):Option R253:=gl0 (y0.length:Int) y0
theorem e253 (s:ask253.T):evFn E0 (orcOf (fes253)) an253 (loOf (les253 gl0)) 21 cd253 Tryz.f253.results.toList rm253 (ask253.mk' s) (decW rsk253 dec253)=B253 gl0 s.2.1:=by kernel_rfl
end
noncomputable def an221:Ann:=⟨[(3,[(0, .any),(3, .own (.it .u64)),(4, .any)]),(7,[(0, .any),(3, .any),(4, .any),(5, .any),(6, .any)])],[],[]⟩
noncomputable def cd221:Code:=(Tryz.f221.body).getD .skip
noncomputable def p221:List Pos:=posns an221 [] cd221
noncomputable def rm221:List RM:=[.own (.it .u64)]
noncomputable def rk221 (s0:SbT ask221.bl):KX R221:=retK E0 Tryz.f221.results.toList rm221 (mkB ask221.bl s0) (decW rsk221 dec221)
noncomputable def k221l0:Sk:=⟨[(0, .d .st),(3, .f (.a (.ref 3))),(4, .d (.it .i64))],[(3, .own (.it .u64) true)]⟩
noncomputable def k221l1:Sk:=⟨[(0, .d .st),(3, .f (.a (.ref 3))),(4, .d (.it .i64)),(5, .d (.it .u64)),(6, .d (.it .i64))],[(3, .own (.it .u64) true)]⟩
noncomputable def les221 (gl0:ByteArray→Int→(List Int)→Option R221) (gl1:ByteArray→Int→Int→Int→(List Int)→Option R221):List (LoE R221):=[⟨3,k221l0,fun s=>gl0 s.1.1 s.1.2.1 s.2.1⟩,⟨7,k221l1,fun s=>gl1 s.1.1 s.1.2.1 s.1.2.2.1 s.1.2.2.2.1 s.2.1⟩]
noncomputable def fes221 (c253:(List Int)→Option R253):List FE:=[(fe253 c253)]
section
variable (gl0:ByteArray→Int→(List Int)→Option R221) (gl1:ByteArray→Int→Int→Int→(List Int)→Option R221) (c253:(List Int)→Option R253)
noncomputable def B221l0 (x0:ByteArray) (x4:Int) (x3:(List Int)):Option R221:=if x4>0 then(gl1 x0 x4 0 (mx 0 (wrap64 (x4-4))) x3)else((c253 x3).bind fun r1=>(some (r1.2.take (r1.1:Int).toNat)))
theorem e221l0 (s0:SbT ask221.bl) (s:k221l0.T):evPos E0 (orcOf (fes221 c253)) 34 an221 (loOf (les221 gl0 gl1)) (rk221 s0) (p221.getD 0 ⟨0,[], .skip⟩) (k221l0.mk' s)=B221l0 gl1 c253 s.1.1 s.1.2.1 s.2.1:=by kernel_rfl
noncomputable def B221l1 (x0:ByteArray) (x4:Int) (x5:Int) (x6:Int) (x3:(List Int)):Option R221:=if x6<x4 then(if 0≤x6 then(if x6<(x0.size:Int)then(gl1 x0 x4 (IntKind.u64.wrap ((IntKind.u64.wrap (x5*256))+(IntKind.u64.wrap (bt x0 x6)))) (wrap64 (x6+1)) x3)else(none))else(none))else(if(x3.length+1)*8≤140737488355328 then(gl0 x0 (wrap64 (x4-4)) (x3++([x5]:List Int)))else(none))
theorem e221l1 (s0:SbT ask221.bl) (s:k221l1.T):evPos E0 (orcOf (fes221 c253)) 34 an221 (loOf (les221 gl0 gl1)) (rk221 s0) (p221.getD 1 ⟨0,[], .skip⟩) (k221l1.mk' s)=B221l1 gl0 gl1 s.1.1 s.1.2.1 s.1.2.2.1 s.1.2.2.2.1 s.2.1:=by kernel_rfl
noncomputable def B221 (x0:ByteArray):Option R221:=gl0 x0 (x0.size:Int) ([]:List Int)
theorem e221 (s:ask221.T):evFn E0 (orcOf (fes221 c253)) an221 (loOf (les221 gl0 gl1)) 34 cd221 Tryz.f221.results.toList rm221 (ask221.mk' s) (decW rsk221 dec221)=B221 gl0 s.1.1:=by kernel_rfl
end
noncomputable def an222:Ann:=⟨[(5,[(0, .pt),(1, .any),(5, .any)])],[],[]⟩
noncomputable def cd222:Code:=(Tryz.f222.body).getD .skip
noncomputable def p222:List Pos:=posns an222 [] cd222
noncomputable def rm222:List RM:=[.d .bo]
noncomputable def rk222 (s0:SbT ask222.bl):KX R222:=retK E0 Tryz.f222.results.toList rm222 (mkB ask222.bl s0) (decW rsk222 dec222)
noncomputable def k222l0:Sk:=⟨[(0, .pre 2000),(1, .d (.li (.it .u64))),(5, .d (.it .i64))],[(2000, .own (.it .u64) false)]⟩
noncomputable def les222 (gl0:Int→(List Int)→Int→(List Int)→Option R222):List (LoE R222):=[⟨5,k222l0,fun s=>gl0 s.1.1 s.1.2.1 s.1.2.2.1 s.2.1⟩]
noncomputable def fes222 (c253:(List Int)→Option R253):List FE:=[(fe253 c253)]
section
variable (gl0:Int→(List Int)→Int→(List Int)→Option R222) (c253:(List Int)→Option R253)
noncomputable def B222l0 (x0:Int) (x1:(List Int)) (x5:Int) (y0:(List Int)):Option R222:=if x5≥0 then(if 0≤x5 then(if x5<x0-0 then(if 0≤x5 then(if x5<(x1.length:Int)then(if rd y0 (0+x5)≠rd x1 x5 then(if 0≤x5 then(if x5<x0-0 then(if 0≤x5 then(if x5<(x1.length:Int)then(some (decide (rd y0 (0+x5)<rd x1 x5),y0))else(none))else(none))else(none))else(none))else(gl0 x0 x1 (wrap64 (x5-1)) y0))else(none))else(none))else(none))else(none))else(some (false,y0))
theorem e222l0 (s0:SbT ask222.bl) (s:k222l0.T):evPos E0 (orcOf (fes222 c253)) 43 an222 (loOf (les222 gl0)) (rk222 s0) (p222.getD 0 ⟨0,[], .skip⟩) (k222l0.mk' s)=B222l0 gl0 s.1.1 s.1.2.1 s.1.2.2.1 s.2.1:=by kernel_rfl
noncomputable def B222 (x1:(List Int)) (y0:(List Int)):Option R222:=(c253 y0).bind fun r1=>(if r1.1-0≠(x1.length:Int)then(some (decide (r1.1-0<(x1.length:Int)),r1.2))else(gl0 r1.1 x1 (wrap64 ((r1.1-0)-1)) r1.2))
theorem e222 (s:ask222.T):evFn E0 (orcOf (fes222 c253)) an222 (loOf (les222 gl0)) 43 cd222 Tryz.f222.results.toList rm222 (ask222.mk' s) (decW rsk222 dec222)=B222 gl0 c253 s.1.1 s.2.1:=by kernel_rfl
end
noncomputable def an147:Ann:=⟨[(8,[(7, .val (.li (.it .u64))),(8, .any),(9, .any),(10, .any),(11, .any)]),(10,[(7, .any),(8, .any),(9, .any),(10, .any),(11, .any)]),(15,[(7, .val (.li (.it .u64))),(8, .any),(9, .any),(10, .any),(11, .any),(12, .any),(13, .any),(14, .any)])],[],[]⟩
noncomputable def cd147:Code:=(Tryz.f147.body).getD .skip
noncomputable def p147:List Pos:=posns an147 [] cd147
noncomputable def rm147:List RM:=[.d .st, .d .st]
noncomputable def rk147 (s0:SbT ask147.bl):KX R147:=retK E0 Tryz.f147.results.toList rm147 (mkB ask147.bl s0) (decW rsk147 dec147)
noncomputable def k147l0:Sk:=⟨[(7, .d (.li (.it .u64))),(8, .d (.it .i64)),(9, .f (.a (.ref 9))),(10, .f (.a (.ref 10))),(11, .d (.it .i64))],[(9, .own (.it .u64) true),(10, .own (.it .u64) true)]⟩
noncomputable def k147l1:Sk:=⟨[(7, .d (.li (.it .u64))),(8, .d (.it .i64)),(9, .f (.a (.ref 9))),(10, .f (.a (.ref 10))),(11, .d (.it .i64))],[(9, .own (.it .u64) true),(10, .own (.it .u64) true)]⟩
noncomputable def k147l2:Sk:=⟨[(7, .d (.li (.it .u64))),(8, .d (.it .i64)),(9, .f (.a (.ref 9))),(10, .f (.a (.ref 10))),(11, .d (.it .i64)),(12, .d (.it .u64)),(13, .d (.it .u64)),(14, .d (.it .i64))],[(9, .own (.it .u64) true),(10, .own (.it .u64) true)]⟩
noncomputable def les147 (gl0:(List Int)→Int→Int→(List Int)→(List Int)→Option R147) (gl1:(List Int)→Int→Int→(List Int)→(List Int)→Option R147) (gl2:(List Int)→Int→Int→Int→Int→Int→(List Int)→(List Int)→Option R147):List (LoE R147):=[⟨8,k147l0,fun s=>gl0 s.1.1 s.1.2.1 s.1.2.2.1 s.2.1 s.2.2.1⟩,⟨10,k147l1,fun s=>gl1 s.1.1 s.1.2.1 s.1.2.2.1 s.2.1 s.2.2.1⟩,⟨15,k147l2,fun s=>gl2 s.1.1 s.1.2.1 s.1.2.2.1 s.1.2.2.2.1 s.1.2.2.2.2.1 s.1.2.2.2.2.2.1 s.2.1 s.2.2.1⟩]
noncomputable def fes147 (c180:(List Int)→Option R180) (c221:ByteArray→Option R221) (c222:(List Int)→(List Int)→Option R222):List FE:=[(fe180 c180),(fe221 c221),(fe222 c222)]
section
variable (gl0:(List Int)→Int→Int→(List Int)→(List Int)→Option R147) (gl1:(List Int)→Int→Int→(List Int)→(List Int)→Option R147) (gl2:(List Int)→Int→Int→Int→Int→Int→(List Int)→(List Int)→Option R147) (c180:(List Int)→Option R180) (c221:ByteArray→Option R221) (c222:(List Int)→(List Int)→Option R222)
noncomputable def B147l0 (x7:(List Int)) (x8:Int) (x11:Int) (x9:(List Int)) (x10:(List Int)):Option R147:=if x11≥0 then(gl1 x7 x8 x11 x9 x10)else((c180 x10).bind fun r1=>((c180 x9).bind fun r2=>(some (r1,r2))))
theorem e147l0 (s0:SbT ask147.bl) (s:k147l0.T):evPos E0 (orcOf (fes147 c180 c221 c222)) 148 an147 (loOf (les147 gl0 gl1 gl2)) (rk147 s0) (p147.getD 0 ⟨0,[], .skip⟩) (k147l0.mk' s)=B147l0 gl1 c180 s.1.1 s.1.2.1 s.1.2.2.1 s.2.1 s.2.2.1:=by kernel_rfl
noncomputable def B147l1 (x7:(List Int)) (x8:Int) (x11:Int) (x9:(List Int)) (x10:(List Int)):Option R147:=if 0≤x11 then(if x11≤(x9.length:Int)then(if(x9.length:Int)≤(x9.length:Int)then(if(x9.length:Int)≤(x9.length:Int)then((c222 x7 (slice_ x9 x11 (x9.length:Int))).bind fun r1=>(cnd ((!r1.1)) (if 0≤wrap64 (x11+x8)then(if wrap64 (x11+x8)<((x9.take ((x11:Int).toNat)++r1.2++x9.drop (((x9.length:Int):Int).toNat)).length:Int)then(if(0:Int)≤32 then(if 0≤wrap64 ((wrap64 (x11+x8))-1)then(if wrap64 ((wrap64 (x11+x8))-1)<((x9.take ((x11:Int).toNat)++r1.2++x9.drop (((x9.length:Int):Int).toNat)).length:Int)then(if 0≤wrap64 (x8-1)then(if wrap64 (x8-1)<(x7.length:Int)then(if IntKind.u64.wrap ((rd x7 (wrap64 (x8-1)))+1)=0 then(none)else(if 0≤x11 then(if x11<(x10.length:Int)then(if 0≤x11 then(if x11<(x10.length:Int)then(gl2 x7 x8 x11 (mx 1 (IntKind.u64.wrap (Int.tdiv (IntKind.u64.wrap ((IntKind.u64.wrap ((rd (x9.take ((x11:Int).toNat)++r1.2++x9.drop (((x9.length:Int):Int).toNat)) (wrap64 (x11+x8)))*4294967296))+(rd (x9.take ((x11:Int).toNat)++r1.2++x9.drop (((x9.length:Int):Int).toNat)) (wrap64 ((wrap64 (x11+x8))-1))))) (IntKind.u64.wrap ((rd x7 (wrap64 (x8-1)))+1))))) 0 0 (x9.take ((x11:Int).toNat)++r1.2++x9.drop (((x9.length:Int):Int).toNat)) (x10.set (x11:Int).toNat (IntKind.u64.wrap ((rd x10 x11)+(mx 1 (IntKind.u64.wrap (Int.tdiv (IntKind.u64.wrap ((IntKind.u64.wrap ((rd (x9.take ((x11:Int).toNat)++r1.2++x9.drop (((x9.length:Int):Int).toNat)) (wrap64 (x11+x8)))*4294967296))+(rd (x9.take ((x11:Int).toNat)++r1.2++x9.drop (((x9.length:Int):Int).toNat)) (wrap64 ((wrap64 (x11+x8))-1))))) (IntKind.u64.wrap ((rd x7 (wrap64 (x8-1)))+1)))))))))else(none))else(none))else(none))else(none)))else(none))else(none))else(none))else(none))else(none))else(none))else(none)) (gl0 x7 x8 (wrap64 (x11-1)) (x9.take ((x11:Int).toNat)++r1.2++x9.drop (((x9.length:Int):Int).toNat)) x10)))else(none))else(none))else(none))else(none)
theorem e147l1 (s0:SbT ask147.bl) (s:k147l1.T):evPos E0 (orcOf (fes147 c180 c221 c222)) 148 an147 (loOf (les147 gl0 gl1 gl2)) (rk147 s0) (p147.getD 1 ⟨0,[], .skip⟩) (k147l1.mk' s)=B147l1 gl0 gl2 c222 s.1.1 s.1.2.1 s.1.2.2.1 s.2.1 s.2.2.1:=by kernel_rfl
noncomputable def B147l2 (x7:(List Int)) (x8:Int) (x11:Int) (x12:Int) (x13:Int) (x14:Int) (x9:(List Int)) (x10:(List Int)):Option R147:=if x14<x8 then(if 0≤x14 then(if x14<(x7.length:Int)then(if(0:Int)≤32 then(if 0≤wrap64 (x11+x14)then(if wrap64 (x11+x14)<(x9.length:Int)then(if rd x9 (wrap64 (x11+x14))<Go.bits .and .u64 (IntKind.u64.wrap ((IntKind.u64.wrap ((rd x7 x14)*x12))+x13)) 4294967295 then(if 0≤wrap64 (x11+x14)then(if wrap64 (x11+x14)<(x9.length:Int)then(if 0≤wrap64 (x11+x14)then(if wrap64 (x11+x14)<(x9.length:Int)then(if 0≤wrap64 (x11+x14)then(if wrap64 (x11+x14)<((x9.set (wrap64 (x11+x14):Int).toNat (IntKind.u64.wrap ((rd x9 (wrap64 (x11+x14)))+4294967296))).length:Int)then(if 0≤wrap64 (x11+x14)then(if wrap64 (x11+x14)<((x9.set (wrap64 (x11+x14):Int).toNat (IntKind.u64.wrap ((rd x9 (wrap64 (x11+x14)))+4294967296))).length:Int)then(gl2 x7 x8 x11 x12 (IntKind.u64.wrap (((IntKind.u64.wrap ((IntKind.u64.wrap ((rd x7 x14)*x12))+x13))/4294967296)+1)) (wrap64 (x14+1)) ((x9.set (wrap64 (x11+x14):Int).toNat (IntKind.u64.wrap ((rd x9 (wrap64 (x11+x14)))+4294967296))).set (wrap64 (x11+x14):Int).toNat (IntKind.u64.wrap ((rd (x9.set (wrap64 (x11+x14):Int).toNat (IntKind.u64.wrap ((rd x9 (wrap64 (x11+x14)))+4294967296))) (wrap64 (x11+x14)))-(Go.bits .and .u64 (IntKind.u64.wrap ((IntKind.u64.wrap ((rd x7 x14)*x12))+x13)) 4294967295)))) x10)else(none))else(none))else(none))else(none))else(none))else(none))else(none))else(none))else(if 0≤wrap64 (x11+x14)then(if wrap64 (x11+x14)<(x9.length:Int)then(if 0≤wrap64 (x11+x14)then(if wrap64 (x11+x14)<(x9.length:Int)then(gl2 x7 x8 x11 x12 ((IntKind.u64.wrap ((IntKind.u64.wrap ((rd x7 x14)*x12))+x13))/4294967296) (wrap64 (x14+1)) (x9.set (wrap64 (x11+x14):Int).toNat (IntKind.u64.wrap ((rd x9 (wrap64 (x11+x14)))-(Go.bits .and .u64 (IntKind.u64.wrap ((IntKind.u64.wrap ((rd x7 x14)*x12))+x13)) 4294967295)))) x10)else(none))else(none))else(none))else(none)))else(none))else(none))else(none))else(none))else(none))else(if 0≤wrap64 (x11+x8)then(if wrap64 (x11+x8)<(x9.length:Int)then(if 0≤wrap64 (x11+x8)then(if wrap64 (x11+x8)<(x9.length:Int)then(gl1 x7 x8 x11 (x9.set (wrap64 (x11+x8):Int).toNat (IntKind.u64.wrap ((rd x9 (wrap64 (x11+x8)))-x13))) x10)else(none))else(none))else(none))else(none))
theorem e147l2 (s0:SbT ask147.bl) (s:k147l2.T):evPos E0 (orcOf (fes147 c180 c221 c222)) 148 an147 (loOf (les147 gl0 gl1 gl2)) (rk147 s0) (p147.getD 2 ⟨0,[], .skip⟩) (k147l2.mk' s)=B147l2 gl1 gl2 s.1.1 s.1.2.1 s.1.2.2.1 s.1.2.2.2.1 s.1.2.2.2.2.1 s.1.2.2.2.2.2.1 s.2.1 s.2.2.1:=by kernel_rfl
noncomputable def B147 (x0:ByteArray) (x1:ByteArray):Option R147:=cnd ((eqS x1 (⟨#[]⟩:ByteArray))) (some ((⟨#[]⟩:ByteArray),(⟨#[]⟩:ByteArray))) ((c221 x0).bind fun r1=>((c221 x1).bind fun r2=>(if(r1.length+1)*8≤140737488355328 then(if 0≤mx 0 (wrap64 ((wrap64 ((r1.length:Int)-(r2.length:Int)))+1))then(if mx 0 (wrap64 ((wrap64 ((r1.length:Int)-(r2.length:Int)))+1))≤mx 0 (wrap64 ((wrap64 ((r1.length:Int)-(r2.length:Int)))+1))then(if(mx 0 (wrap64 ((wrap64 ((r1.length:Int)-(r2.length:Int)))+1)):Int).toNat≤35184372088832 then(gl0 r2 (r2.length:Int) (wrap64 (((List.replicate (mx 0 (wrap64 ((wrap64 ((r1.length:Int)-(r2.length:Int)))+1)):Int).toNat (0:Int)).length:Int)-1)) (r1++([0]:List Int)) (List.replicate (mx 0 (wrap64 ((wrap64 ((r1.length:Int)-(r2.length:Int)))+1)):Int).toNat (0:Int)))else(none))else(none))else(none))else(none))))
theorem e147 (s:ask147.T):evFn E0 (orcOf (fes147 c180 c221 c222)) an147 (loOf (les147 gl0 gl1 gl2)) 148 cd147 Tryz.f147.results.toList rm147 (ask147.mk' s) (decW rsk147 dec147)=B147 gl0 c221 s.1.1 s.1.2.1:=by kernel_rfl
end
noncomputable def an146:Ann:=⟨[(1,[(0, .any),(1, .any)])],[],[]⟩
noncomputable def cd146:Code:=(Tryz.f146.body).getD .skip
noncomputable def p146:List Pos:=posns an146 [] cd146
noncomputable def rm146:List RM:=[.d .st]
noncomputable def rk146 (s0:SbT ask146.bl):KX R146:=retK E0 Tryz.f146.results.toList rm146 (mkB ask146.bl s0) (decW rsk146 dec146)
noncomputable def k146l0:Sk:=⟨[(0, .d .st),(1, .d .st)],[]⟩
noncomputable def les146 (gl0:ByteArray→ByteArray→Option R146):List (LoE R146):=[⟨1,k146l0,fun s=>gl0 s.1.1 s.1.2.1⟩]
noncomputable def fes146 (c147:ByteArray→ByteArray→Option R147):List FE:=[(fe147 c147)]
section
variable (gl0:ByteArray→ByteArray→Option R146) (c147:ByteArray→ByteArray→Option R147)
noncomputable def B146l0 (x0:ByteArray) (x1:ByteArray):Option R146:=cnd ((!(eqS x1 (⟨#[]⟩:ByteArray)))) ((c147 x0 x1).bind fun r1=>(gl0 x1 r1.2)) (some x0)
theorem e146l0 (s0:SbT ask146.bl) (s:k146l0.T):evPos E0 (orcOf (fes146 c147)) 18 an146 (loOf (les146 gl0)) (rk146 s0) (p146.getD 0 ⟨0,[], .skip⟩) (k146l0.mk' s)=B146l0 gl0 c147 s.1.1 s.1.2.1:=by kernel_rfl
noncomputable def B146 (x0:ByteArray) (x1:ByteArray):Option R146:=gl0 x0 x1
theorem e146 (s:ask146.T):evFn E0 (orcOf (fes146 c147)) an146 (loOf (les146 gl0)) 18 cd146 Tryz.f146.results.toList rm146 (ask146.mk' s) (decW rsk146 dec146)=B146 gl0 s.1.1 s.1.2.1:=by kernel_rfl
end
noncomputable def an148:Ann:=⟨[],[],[]⟩
noncomputable def cd148:Code:=(Tryz.f148.body).getD .skip
noncomputable def rm148:List RM:=[.d (.ag (.pr .bo .st))]
noncomputable def les148:List (LoE R148):=[]
noncomputable def fes148:List FE:=[]
noncomputable def B148 (x0:Bool) (x1:ByteArray):Option R148:=cnd (x0) (some ((!(eqS x1 (⟨#[]⟩:ByteArray))),x1)) (some (false,x1))
theorem e148 (s:ask148.T):evFn E0 (orcOf (fes148)) an148 (loOf (les148)) 12 cd148 Tryz.f148.results.toList rm148 (ask148.mk' s) (decW rsk148 dec148)=B148 s.1.1 s.1.2.1:=by kernel_rfl
noncomputable def an60:Ann:=⟨[],[],[]⟩
noncomputable def cd60:Code:=(Tryz.f60.body).getD .skip
noncomputable def rm60:List RM:=[.d (.ag (.pr (.ag (.pr .bo .st)) .st))]
noncomputable def les60:List (LoE R60):=[]
noncomputable def fes60 (c146:ByteArray→ByteArray→Option R146) (c147:ByteArray→ByteArray→Option R147) (c148:Bool→ByteArray→Option R148):List FE:=[(fe146 c146),(fe147 c147),(fe148 c148)]
section
variable (c146:ByteArray→ByteArray→Option R146) (c147:ByteArray→ByteArray→Option R147) (c148:Bool→ByteArray→Option R148)
noncomputable def B60 (x0:TI) (x1:TI):Option R60:=cnd ((eqS x1.2 (⟨#[]⟩:ByteArray))) (some ((false,(⟨#[]⟩:ByteArray)),(⟨#[1]⟩:ByteArray))) ((c146 x0.2 x1.2).bind fun r1=>((c147 x0.2 r1).bind fun r2=>((c147 x1.2 r1).bind fun r3=>((c148 (!(x0.1==x1.1)) r2.1).bind fun r4=>(some ((r4.1,r4.2),r3.1))))))
theorem e60 (s:ask60.T):evFn E0 (orcOf (fes60 c146 c147 c148)) an60 (loOf (les60)) 42 cd60 Tryz.f60.results.toList rm60 (ask60.mk' s) (decW rsk60 dec60)=B60 c146 c147 c148 s.1.1 s.1.2.1:=by kernel_rfl
end
noncomputable def an11:Ann:=⟨[],[],[]⟩
noncomputable def cd11:Code:=(Tryz.f11.body).getD .skip
noncomputable def rm11:List RM:=[.d (.ag (.pr (.ag (.pr .bo .st)) .st))]
noncomputable def les11:List (LoE R11):=[]
noncomputable def fes11 (c25:Int→Option R25) (c60:TI→TI→Option R60):List FE:=[(fe25 c25),(fe60 c60)]
section
variable (c25:Int→Option R25) (c60:TI→TI→Option R60)
noncomputable def B11 (x0:Int) (x1:Int):Option R11:=(c25 x0).bind fun r1=>((c25 x1).bind fun r2=>((c60 (r1.1,r1.2) (r2.1,r2.2)).bind fun r3=>(some (r3.1,r3.2))))
theorem e11 (s:ask11.T):evFn E0 (orcOf (fes11 c25 c60)) an11 (loOf (les11)) 10 cd11 Tryz.f11.results.toList rm11 (ask11.mk' s) (decW rsk11 dec11)=B11 c25 c60 s.1.1 s.1.2.1:=by kernel_rfl
end
noncomputable def an13:Ann:=⟨[],[],[]⟩
noncomputable def cd13:Code:=(Tryz.f13.body).getD .skip
noncomputable def rm13:List RM:=[.d (.ag (.pr (.ag (.pr .bo .st)) .st))]
noncomputable def les13:List (LoE R13):=[]
noncomputable def fes13:List FE:=[]
noncomputable def B13 (x0:TI):Option R13:=some (x0,(⟨#[1]⟩:ByteArray))
theorem e13 (s:ask13.T):evFn E0 (orcOf (fes13)) an13 (loOf (les13)) 5 cd13 Tryz.f13.results.toList rm13 (ask13.mk' s) (decW rsk13 dec13)=B13 s.1.1:=by kernel_rfl
noncomputable def an149:Ann:=⟨[(4,[(5, .any),(6, .any),(7, .any),(8, .any)]),(8,[(5, .any),(6, .any),(7, .any),(8, .any),(9, .any),(10, .any)])],[],[]⟩
noncomputable def cd149:Code:=(Tryz.f149.body).getD .skip
noncomputable def p149:List Pos:=posns an149 [] cd149
noncomputable def rm149:List RM:=[.d .st]
noncomputable def rk149 (s0:SbT ask149.bl):KX R149:=retK E0 Tryz.f149.results.toList rm149 (mkB ask149.bl s0) (decW rsk149 dec149)
noncomputable def k149l0:Sk:=⟨[(5, .f (.a (.ref 5))),(6, .f (.a (.ref 6))),(7, .f (.a (.ref 7))),(8, .d (.it .i64))],[(5, .own (.it .u64) true),(6, .own (.it .u64) true),(7, .own (.it .u64) true)]⟩
noncomputable def k149l1:Sk:=⟨[(5, .f (.a (.ref 5))),(6, .f (.a (.ref 6))),(7, .f (.a (.ref 7))),(8, .d (.it .i64)),(9, .d (.it .u64)),(10, .d (.it .i64))],[(5, .own (.it .u64) true),(6, .own (.it .u64) true),(7, .own (.it .u64) true)]⟩
noncomputable def les149 (gl0:Int→(List Int)→(List Int)→(List Int)→Option R149) (gl1:Int→Int→Int→(List Int)→(List Int)→(List Int)→Option R149):List (LoE R149):=[⟨4,k149l0,fun s=>gl0 s.1.1 s.2.1 s.2.2.1 s.2.2.2.1⟩,⟨8,k149l1,fun s=>gl1 s.1.1 s.1.2.1 s.1.2.2.1 s.2.1 s.2.2.1 s.2.2.2.1⟩]
noncomputable def fes149 (c180:(List Int)→Option R180) (c221:ByteArray→Option R221):List FE:=[(fe180 c180),(fe221 c221)]
section
variable (gl0:Int→(List Int)→(List Int)→(List Int)→Option R149) (gl1:Int→Int→Int→(List Int)→(List Int)→(List Int)→Option R149) (c180:(List Int)→Option R180) (c221:ByteArray→Option R221)
noncomputable def B149l0 (x8:Int) (x5:(List Int)) (x6:(List Int)) (x7:(List Int)):Option R149:=if x8<(x5.length:Int)then(gl1 x8 0 0 x5 x6 x7)else((c180 x7).bind fun r1=>(some r1))
theorem e149l0 (s0:SbT ask149.bl) (s:k149l0.T):evPos E0 (orcOf (fes149 c180 c221)) 70 an149 (loOf (les149 gl0 gl1)) (rk149 s0) (p149.getD 0 ⟨0,[], .skip⟩) (k149l0.mk' s)=B149l0 gl1 c180 s.1.1 s.2.1 s.2.2.1 s.2.2.2.1:=by kernel_rfl
noncomputable def B149l1 (x8:Int) (x9:Int) (x10:Int) (x5:(List Int)) (x6:(List Int)) (x7:(List Int)):Option R149:=if x10<(x6.length:Int)then(if 0≤wrap64 (x8+x10)then(if wrap64 (x8+x10)<(x7.length:Int)then(if 0≤x8 then(if x8<(x5.length:Int)then(if 0≤x10 then(if x10<(x6.length:Int)then(if 0≤wrap64 (x8+x10)then(if wrap64 (x8+x10)<(x7.length:Int)then(if(0:Int)≤32 then(gl1 x8 ((IntKind.u64.wrap ((IntKind.u64.wrap ((rd x7 (wrap64 (x8+x10)))+(IntKind.u64.wrap ((rd x5 x8)*(rd x6 x10)))))+x9))/4294967296) (wrap64 (x10+1)) x5 x6 (x7.set (wrap64 (x8+x10):Int).toNat (Go.bits .and .u64 (IntKind.u64.wrap ((IntKind.u64.wrap ((rd x7 (wrap64 (x8+x10)))+(IntKind.u64.wrap ((rd x5 x8)*(rd x6 x10)))))+x9)) 4294967295)))else(none))else(none))else(none))else(none))else(none))else(none))else(none))else(none))else(none))else(if 0≤wrap64 (x8+(x6.length:Int))then(if wrap64 (x8+(x6.length:Int))<(x7.length:Int)then(gl0 (wrap64 (x8+1)) x5 x6 (x7.set (wrap64 (x8+(x6.length:Int)):Int).toNat x9))else(none))else(none))
theorem e149l1 (s0:SbT ask149.bl) (s:k149l1.T):evPos E0 (orcOf (fes149 c180 c221)) 70 an149 (loOf (les149 gl0 gl1)) (rk149 s0) (p149.getD 1 ⟨0,[], .skip⟩) (k149l1.mk' s)=B149l1 gl0 gl1 s.1.1 s.1.2.1 s.1.2.2.1 s.2.1 s.2.2.1 s.2.2.2.1:=by kernel_rfl
noncomputable def B149 (x0:ByteArray) (x1:ByteArray):Option R149:=(c221 x0).bind fun r1=>((c221 x1).bind fun r2=>(if 0≤wrap64 ((r1.length:Int)+(r2.length:Int))then(if wrap64 ((r1.length:Int)+(r2.length:Int))≤wrap64 ((r1.length:Int)+(r2.length:Int))then(if(wrap64 ((r1.length:Int)+(r2.length:Int)):Int).toNat≤35184372088832 then(gl0 0 r1 r2 (List.replicate (wrap64 ((r1.length:Int)+(r2.length:Int)):Int).toNat (0:Int)))else(none))else(none))else(none)))
theorem e149 (s:ask149.T):evFn E0 (orcOf (fes149 c180 c221)) an149 (loOf (les149 gl0 gl1)) 70 cd149 Tryz.f149.results.toList rm149 (ask149.mk' s) (decW rsk149 dec149)=B149 gl0 c221 s.1.1 s.1.2.1:=by kernel_rfl
end
noncomputable def an61:Ann:=⟨[],[],[]⟩
noncomputable def cd61:Code:=(Tryz.f61.body).getD .skip
noncomputable def rm61:List RM:=[.d (.ag (.pr .bo .st))]
noncomputable def les61:List (LoE R61):=[]
noncomputable def fes61 (c148:Bool→ByteArray→Option R148) (c149:ByteArray→ByteArray→Option R149):List FE:=[(fe148 c148),(fe149 c149)]
section
variable (c148:Bool→ByteArray→Option R148) (c149:ByteArray→ByteArray→Option R149)
noncomputable def B61 (x0:TI) (x1:TI):Option R61:=(c149 x0.2 x1.2).bind fun r1=>((c148 (!(x0.1==x1.1)) r1).bind fun r2=>(some (r2.1,r2.2)))
theorem e61 (s:ask61.T):evFn E0 (orcOf (fes61 c148 c149)) an61 (loOf (les61)) 16 cd61 Tryz.f61.results.toList rm61 (ask61.mk' s) (decW rsk61 dec61)=B61 c148 c149 s.1.1 s.1.2.1:=by kernel_rfl
end
noncomputable def an62:Ann:=⟨[],[],[]⟩
noncomputable def cd62:Code:=(Tryz.f62.body).getD .skip
noncomputable def rm62:List RM:=[.d (.ag (.pr .bo .st))]
noncomputable def les62:List (LoE R62):=[]
noncomputable def fes62:List FE:=[]
noncomputable def B62 (x0:TQ):Option R62:=some (false,x0.2)
theorem e62 (s:ask62.T):evFn E0 (orcOf (fes62)) an62 (loOf (les62)) 6 cd62 Tryz.f62.results.toList rm62 (ask62.mk' s) (decW rsk62 dec62)=B62 s.1.1:=by kernel_rfl
noncomputable def an12:Ann:=⟨[],[],[]⟩
noncomputable def cd12:Code:=(Tryz.f12.body).getD .skip
noncomputable def rm12:List RM:=[.d (.ag (.pr (.ag (.pr .bo .st)) .st))]
noncomputable def les12:List (LoE R12):=[]
noncomputable def fes12 (c13:TI→Option R13) (c60:TI→TI→Option R60) (c61:TI→TI→Option R61) (c62:TQ→Option R62):List FE:=[(fe13 c13),(fe60 c60),(fe61 c61),(fe62 c62)]
section
variable (c13:TI→Option R13) (c60:TI→TI→Option R60) (c61:TI→TI→Option R61) (c62:TQ→Option R62)
noncomputable def B12 (x0:TQ) (x1:TQ):Option R12:=cnd ((eqS x0.2 (⟨#[1]⟩:ByteArray))) (cnd ((eqS x1.2 (⟨#[1]⟩:ByteArray))) ((c61 x0.1 x1.1).bind fun r1=>((c13 (r1.1,r1.2)).bind fun r2=>(some (r2.1,r2.2)))) ((c61 x0.1 x1.1).bind fun r3=>((c62 x0).bind fun r4=>((c62 x1).bind fun r5=>((c61 (r4.1,r4.2) (r5.1,r5.2)).bind fun r6=>((c60 (r3.1,r3.2) (r6.1,r6.2)).bind fun r7=>(some (r7.1,r7.2)))))))) ((c61 x0.1 x1.1).bind fun r8=>((c62 x0).bind fun r9=>((c62 x1).bind fun r10=>((c61 (r9.1,r9.2) (r10.1,r10.2)).bind fun r11=>((c60 (r8.1,r8.2) (r11.1,r11.2)).bind fun r12=>(some (r12.1,r12.2)))))))
theorem e12 (s:ask12.T):evFn E0 (orcOf (fes12 c13 c60 c61 c62)) an12 (loOf (les12)) 30 cd12 Tryz.f12.results.toList rm12 (ask12.mk' s) (decW rsk12 dec12)=B12 c13 c60 c61 c62 s.1.1 s.1.2.1:=by kernel_rfl
end
noncomputable def an91:Ann:=⟨[],[],[]⟩
noncomputable def cd91:Code:=(Tryz.f91.body).getD .skip
noncomputable def rm91:List RM:=[.d (.it .i64)]
noncomputable def les91:List (LoE R91):=[]
noncomputable def fes91:List FE:=[]
noncomputable def B91 (x0:ByteArray):Option R91:=if(x0.size:Int)>0 then(if(0:Int)≤0 then(if 0<(x0.size:Int)then(if bt x0 0=0 then(some 1)else(if(x0.size:Int)>1024 then(some 4)else(some 0)))else(none))else(none))else(if(x0.size:Int)>1024 then(some 4)else(some 0))
theorem e91 (s:ask91.T):evFn E0 (orcOf (fes91)) an91 (loOf (les91)) 14 cd91 Tryz.f91.results.toList rm91 (ask91.mk' s) (decW rsk91 dec91)=B91 s.1.1:=by kernel_rfl
noncomputable def an254:Ann:=⟨[],[],[]⟩
noncomputable def cd254:Code:=(Tryz.f254.body).getD .skip
noncomputable def rm254:List RM:=[.d (.ag (.pr .bo .st))]
noncomputable def les254:List (LoE R254):=[]
noncomputable def fes254:List FE:=[]
noncomputable def B254:Option R254:=some (false,(⟨#[]⟩:ByteArray))
theorem e254 (s:ask254.T):evFn E0 (orcOf (fes254)) an254 (loOf (les254)) 2 cd254 Tryz.f254.results.toList rm254 (ask254.mk' s) (decW rsk254 dec254)=B254:=by kernel_rfl
noncomputable def an223:Ann:=⟨[],[],[]⟩
noncomputable def cd223:Code:=(Tryz.f223.body).getD .skip
noncomputable def rm223:List RM:=[.d (.it .i64)]
noncomputable def les223:List (LoE R223):=[]
noncomputable def fes223 (c91:ByteArray→Option R91) (c254:Option R254):List FE:=[(fe91 c91),(fe254 c254)]
section
variable (c91:ByteArray→Option R91) (c254:Option R254)
noncomputable def B223 (x0:TI):Option R223:=(c91 x0.2).bind fun r1=>(if r1=1 then(some r1)else((c254).bind fun r2=>(cnd ((!((x0.1==r2.1)&&(eqS x0.2 r2.2)))) (cnd ((eqS x0.2 (⟨#[]⟩:ByteArray))) (some 1) (some r1)) (some r1))))
theorem e223 (s:ask223.T):evFn E0 (orcOf (fes223 c91 c254)) an223 (loOf (les223)) 21 cd223 Tryz.f223.results.toList rm223 (ask223.mk' s) (decW rsk223 dec223)=B223 c91 c254 s.1.1:=by kernel_rfl
end
noncomputable def an234:Ann:=⟨[(2,[(0, .any),(3, .any)])],[],[]⟩
noncomputable def cd234:Code:=(Tryz.f234.body).getD .skip
noncomputable def p234:List Pos:=posns an234 [] cd234
noncomputable def rm234:List RM:=[.sh]
noncomputable def rk234 (s0:SbT ask234.bl):KX R234:=retK E0 Tryz.f234.results.toList rm234 (mkB ask234.bl s0) (decW rsk234 dec234)
noncomputable def k234l0:Sk:=⟨[(0, .f (.a (.ref 2000))),(3, .d (.it .i64))],[(2000, .own (.it .u64) false)]⟩
noncomputable def les234 (gl0:Int→(List Int)→Option R234):List (LoE R234):=[⟨2,k234l0,fun s=>gl0 s.1.1 s.2.1⟩]
noncomputable def fes234:List FE:=[]
section
variable (gl0:Int→(List Int)→Option R234)
noncomputable def B234l0 (x3:Int) (y0:(List Int)):Option R234:=if x3>0 then(if 0≤wrap64 (x3-1)then(if wrap64 (x3-1)<(y0.length:Int)then(if rd y0 (wrap64 (x3-1))=0 then(gl0 (wrap64 (x3-1)) y0)else(if(0:Int)≤0 then(if 0≤x3 then(if x3≤(y0.length:Int)then(if(y0.length:Int)≤(y0.length:Int)then(some (x3,y0))else(none))else(none))else(none))else(none)))else(none))else(none))else(if(0:Int)≤0 then(if 0≤x3 then(if x3≤(y0.length:Int)then(if(y0.length:Int)≤(y0.length:Int)then(some (x3,y0))else(none))else(none))else(none))else(none))
theorem e234l0 (s0:SbT ask234.bl) (s:k234l0.T):evPos E0 (orcOf (fes234)) 21 an234 (loOf (les234 gl0)) (rk234 s0) (p234.getD 0 ⟨0,[], .skip⟩) (k234l0.mk' s)=B234l0 gl0 s.1.1 s.2.1:=by kernel_rfl
noncomputable def B234 (y0:(List Int)):Option R234:=gl0 (y0.length:Int) y0
theorem e234 (s:ask234.T):evFn E0 (orcOf (fes234)) an234 (loOf (les234 gl0)) 21 cd234 Tryz.f234.results.toList rm234 (ask234.mk' s) (decW rsk234 dec234)=B234 gl0 s.2.1:=by kernel_rfl
end
noncomputable def an220:Ann:=⟨[(3,[(0, .any),(3, .any),(12, .any),(13, .any)])],[],[]⟩
noncomputable def cd220:Code:=(Tryz.f220.body).getD .skip
noncomputable def p220:List Pos:=posns an220 [] cd220
noncomputable def rm220:List RM:=[.own (.it .u64)]
noncomputable def rk220 (s0:SbT ask220.bl):KX R220:=retK E0 Tryz.f220.results.toList rm220 (mkB ask220.bl s0) (decW rsk220 dec220)
noncomputable def k220l0:Sk:=⟨[(0, .d .st),(3, .f (.a (.ref 3))),(12, .d (.it .i64)),(13, .d (.it .i64))],[(3, .own (.it .u64) true)]⟩
noncomputable def les220 (gl0:ByteArray→Int→Int→(List Int)→Option R220):List (LoE R220):=[⟨3,k220l0,fun s=>gl0 s.1.1 s.1.2.1 s.1.2.2.1 s.2.1⟩]
noncomputable def fes220 (c234:(List Int)→Option R234):List FE:=[(fe234 c234)]
section
variable (gl0:ByteArray→Int→Int→(List Int)→Option R220) (c234:(List Int)→Option R234)
noncomputable def B220l0 (x0:ByteArray) (x12:Int) (x13:Int) (x3:(List Int)):Option R220:=if x13<x12 then(if(8:Int)=0 then(none)else(if 0≤wrap64 (Int.tdiv (wrap64 ((wrap64 ((x0.size:Int)-1))-x13)) 8)then(if wrap64 (Int.tdiv (wrap64 ((wrap64 ((x0.size:Int)-1))-x13)) 8)<(x3.length:Int)then(if 0≤x13 then(if x13<(x0.size:Int)then(if(8:Int)=0 then(none)else(if 0≤wrap64 (8*(Int.tmod (wrap64 ((wrap64 ((x0.size:Int)-1))-x13)) 8))then(if 0≤wrap64 (Int.tdiv (wrap64 ((wrap64 ((x0.size:Int)-1))-x13)) 8)then(if wrap64 (Int.tdiv (wrap64 ((wrap64 ((x0.size:Int)-1))-x13)) 8)<(x3.length:Int)then(gl0 x0 x12 (wrap64 (x13+1)) (x3.set (wrap64 (Int.tdiv (wrap64 ((wrap64 ((x0.size:Int)-1))-x13)) 8):Int).toNat (Go.bits .or .u64 (rd x3 (wrap64 (Int.tdiv (wrap64 ((wrap64 ((x0.size:Int)-1))-x13)) 8))) (shl .u64 (IntKind.u64.wrap (bt x0 x13)) (wrap64 (8*(Int.tmod (wrap64 ((wrap64 ((x0.size:Int)-1))-x13)) 8)))))))else(none))else(none))else(none)))else(none))else(none))else(none))else(none)))else((c234 x3).bind fun r1=>(some (r1.2.take (r1.1:Int).toNat)))
theorem e220l0 (s0:SbT ask220.bl) (s:k220l0.T):evPos E0 (orcOf (fes220 c234)) 39 an220 (loOf (les220 gl0)) (rk220 s0) (p220.getD 0 ⟨0,[], .skip⟩) (k220l0.mk' s)=B220l0 gl0 c234 s.1.1 s.1.2.1 s.1.2.2.1 s.2.1:=by kernel_rfl
noncomputable def B220 (x0:ByteArray):Option R220:=if(8:Int)=0 then(none)else(if 0≤wrap64 (Int.tdiv (wrap64 ((x0.size:Int)+7)) 8)then(if wrap64 (Int.tdiv (wrap64 ((x0.size:Int)+7)) 8)≤wrap64 (Int.tdiv (wrap64 ((x0.size:Int)+7)) 8)then(if(wrap64 (Int.tdiv (wrap64 ((x0.size:Int)+7)) 8):Int).toNat≤35184372088832 then(gl0 x0 (x0.size:Int) 0 (List.replicate (wrap64 (Int.tdiv (wrap64 ((x0.size:Int)+7)) 8):Int).toNat (0:Int)))else(none))else(none))else(none))
theorem e220 (s:ask220.T):evFn E0 (orcOf (fes220 c234)) an220 (loOf (les220 gl0)) 39 cd220 Tryz.f220.results.toList rm220 (ask220.mk' s) (decW rsk220 dec220)=B220 gl0 s.1.1:=by kernel_rfl
end
noncomputable def an259:Ann:=⟨[(6,[(0, .any),(1, .any),(5, .any)])],[],[]⟩
noncomputable def cd259:Code:=(Tryz.f259.body).getD .skip
noncomputable def p259:List Pos:=posns an259 [] cd259
noncomputable def rm259:List RM:=[.d (.it .i64)]
noncomputable def rk259 (s0:SbT ask259.bl):KX R259:=retK E0 Tryz.f259.results.toList rm259 (mkB ask259.bl s0) (decW rsk259 dec259)
noncomputable def k259l0:Sk:=⟨[(0, .d (.li (.it .u64))),(1, .d (.li (.it .u64))),(5, .d (.it .i64))],[]⟩
noncomputable def les259 (gl0:(List Int)→(List Int)→Int→Option R259):List (LoE R259):=[⟨6,k259l0,fun s=>gl0 s.1.1 s.1.2.1 s.1.2.2.1⟩]
noncomputable def fes259:List FE:=[]
section
variable (gl0:(List Int)→(List Int)→Int→Option R259)
noncomputable def B259l0 (x0:(List Int)) (x1:(List Int)) (x5:Int):Option R259:=if x5≥0 then(if 0≤x5 then(if x5<(x0.length:Int)then(if 0≤x5 then(if x5<(x1.length:Int)then(if rd x0 x5≠rd x1 x5 then(if 0≤x5 then(if x5<(x0.length:Int)then(if 0≤x5 then(if x5<(x1.length:Int)then(if rd x0 x5<rd x1 x5 then(some (-1))else(some 1))else(none))else(none))else(none))else(none))else(gl0 x0 x1 (wrap64 (x5-1))))else(none))else(none))else(none))else(none))else(some 0)
theorem e259l0 (s0:SbT ask259.bl) (s:k259l0.T):evPos E0 (orcOf (fes259)) 41 an259 (loOf (les259 gl0)) (rk259 s0) (p259.getD 0 ⟨0,[], .skip⟩) (k259l0.mk' s)=B259l0 gl0 s.1.1 s.1.2.1 s.1.2.2.1:=by kernel_rfl
noncomputable def B259 (x0:(List Int)) (x1:(List Int)):Option R259:=if(x0.length:Int)≠(x1.length:Int)then(if(x0.length:Int)<(x1.length:Int)then(some (-1))else(some 1))else(gl0 x0 x1 (wrap64 ((x0.length:Int)-1)))
theorem e259 (s:ask259.T):evFn E0 (orcOf (fes259)) an259 (loOf (les259 gl0)) 41 cd259 Tryz.f259.results.toList rm259 (ask259.mk' s) (decW rsk259 dec259)=B259 gl0 s.1.1 s.1.2.1:=by kernel_rfl
end
noncomputable def an272:Ann:=⟨[],[],[]⟩
noncomputable def cd272:Code:=(Tryz.f272.body).getD .skip
noncomputable def rm272:List RM:=[.d (.it .i64)]
noncomputable def les272:List (LoE R272):=[]
noncomputable def fes272:List FE:=[]
noncomputable def B272 (x0:Int):Option R272:=if x0≥4294967296 then(if(0:Int)≤32 then(if x0/4294967296≥65536 then(if(0:Int)≤16 then(if(x0/4294967296)/65536≥256 then(if(0:Int)≤8 then(if 0≤IntKind.u8.wrap (((x0/4294967296)/65536)/256)then(if IntKind.u8.wrap (((x0/4294967296)/65536)/256)<((⟨#[0,1,2,2,3,3,3,3,4,4,4,4,4,4,4,4,5,5,5,5,5,5,5,5,5,5,5,5,5,5,5,5,6,6,6,6,6,6,6,6,6,6,6,6,6,6,6,6,6,6,6,6,6,6,6,6,6,6,6,6,6,6,6,6,7,7,7,7,7,7,7,7,7,7,7,7,7,7,7,7,7,7,7,7,7,7,7,7,7,7,7,7,7,7,7,7,7,7,7,7,7,7,7,7,7,7,7,7,7,7,7,7,7,7,7,7,7,7,7,7,7,7,7,7,7,7,7,7,8,8,8,8,8,8,8,8,8,8,8,8,8,8,8,8,8,8,8,8,8,8,8,8,8,8,8,8,8,8,8,8,8,8,8,8,8,8,8,8,8,8,8,8,8,8,8,8,8,8,8,8,8,8,8,8,8,8,8,8,8,8,8,8,8,8,8,8,8,8,8,8,8,8,8,8,8,8,8,8,8,8,8,8,8,8,8,8,8,8,8,8,8,8,8,8,8,8,8,8,8,8,8,8,8,8,8,8,8,8,8,8,8,8,8,8,8,8,8,8,8,8,8,8,8,8,8,8]⟩:ByteArray).size:Int)then(some (wrap64 (56+(wrap64 (bt (⟨#[0,1,2,2,3,3,3,3,4,4,4,4,4,4,4,4,5,5,5,5,5,5,5,5,5,5,5,5,5,5,5,5,6,6,6,6,6,6,6,6,6,6,6,6,6,6,6,6,6,6,6,6,6,6,6,6,6,6,6,6,6,6,6,6,7,7,7,7,7,7,7,7,7,7,7,7,7,7,7,7,7,7,7,7,7,7,7,7,7,7,7,7,7,7,7,7,7,7,7,7,7,7,7,7,7,7,7,7,7,7,7,7,7,7,7,7,7,7,7,7,7,7,7,7,7,7,7,7,8,8,8,8,8,8,8,8,8,8,8,8,8,8,8,8,8,8,8,8,8,8,8,8,8,8,8,8,8,8,8,8,8,8,8,8,8,8,8,8,8,8,8,8,8,8,8,8,8,8,8,8,8,8,8,8,8,8,8,8,8,8,8,8,8,8,8,8,8,8,8,8,8,8,8,8,8,8,8,8,8,8,8,8,8,8,8,8,8,8,8,8,8,8,8,8,8,8,8,8,8,8,8,8,8,8,8,8,8,8,8,8,8,8,8,8,8,8,8,8,8,8,8,8,8,8,8,8]⟩:ByteArray) (IntKind.u8.wrap (((x0/4294967296)/65536)/256)))))))else(none))else(none))else(none))else(if 0≤IntKind.u8.wrap ((x0/4294967296)/65536)then(if IntKind.u8.wrap ((x0/4294967296)/65536)<((⟨#[0,1,2,2,3,3,3,3,4,4,4,4,4,4,4,4,5,5,5,5,5,5,5,5,5,5,5,5,5,5,5,5,6,6,6,6,6,6,6,6,6,6,6,6,6,6,6,6,6,6,6,6,6,6,6,6,6,6,6,6,6,6,6,6,7,7,7,7,7,7,7,7,7,7,7,7,7,7,7,7,7,7,7,7,7,7,7,7,7,7,7,7,7,7,7,7,7,7,7,7,7,7,7,7,7,7,7,7,7,7,7,7,7,7,7,7,7,7,7,7,7,7,7,7,7,7,7,7,8,8,8,8,8,8,8,8,8,8,8,8,8,8,8,8,8,8,8,8,8,8,8,8,8,8,8,8,8,8,8,8,8,8,8,8,8,8,8,8,8,8,8,8,8,8,8,8,8,8,8,8,8,8,8,8,8,8,8,8,8,8,8,8,8,8,8,8,8,8,8,8,8,8,8,8,8,8,8,8,8,8,8,8,8,8,8,8,8,8,8,8,8,8,8,8,8,8,8,8,8,8,8,8,8,8,8,8,8,8,8,8,8,8,8,8,8,8,8,8,8,8,8,8,8,8,8,8]⟩:ByteArray).size:Int)then(some (wrap64 (48+(wrap64 (bt (⟨#[0,1,2,2,3,3,3,3,4,4,4,4,4,4,4,4,5,5,5,5,5,5,5,5,5,5,5,5,5,5,5,5,6,6,6,6,6,6,6,6,6,6,6,6,6,6,6,6,6,6,6,6,6,6,6,6,6,6,6,6,6,6,6,6,7,7,7,7,7,7,7,7,7,7,7,7,7,7,7,7,7,7,7,7,7,7,7,7,7,7,7,7,7,7,7,7,7,7,7,7,7,7,7,7,7,7,7,7,7,7,7,7,7,7,7,7,7,7,7,7,7,7,7,7,7,7,7,7,8,8,8,8,8,8,8,8,8,8,8,8,8,8,8,8,8,8,8,8,8,8,8,8,8,8,8,8,8,8,8,8,8,8,8,8,8,8,8,8,8,8,8,8,8,8,8,8,8,8,8,8,8,8,8,8,8,8,8,8,8,8,8,8,8,8,8,8,8,8,8,8,8,8,8,8,8,8,8,8,8,8,8,8,8,8,8,8,8,8,8,8,8,8,8,8,8,8,8,8,8,8,8,8,8,8,8,8,8,8,8,8,8,8,8,8,8,8,8,8,8,8,8,8,8,8,8,8]⟩:ByteArray) (IntKind.u8.wrap ((x0/4294967296)/65536)))))))else(none))else(none)))else(none))else(if x0/4294967296≥256 then(if(0:Int)≤8 then(if 0≤IntKind.u8.wrap ((x0/4294967296)/256)then(if IntKind.u8.wrap ((x0/4294967296)/256)<((⟨#[0,1,2,2,3,3,3,3,4,4,4,4,4,4,4,4,5,5,5,5,5,5,5,5,5,5,5,5,5,5,5,5,6,6,6,6,6,6,6,6,6,6,6,6,6,6,6,6,6,6,6,6,6,6,6,6,6,6,6,6,6,6,6,6,7,7,7,7,7,7,7,7,7,7,7,7,7,7,7,7,7,7,7,7,7,7,7,7,7,7,7,7,7,7,7,7,7,7,7,7,7,7,7,7,7,7,7,7,7,7,7,7,7,7,7,7,7,7,7,7,7,7,7,7,7,7,7,7,8,8,8,8,8,8,8,8,8,8,8,8,8,8,8,8,8,8,8,8,8,8,8,8,8,8,8,8,8,8,8,8,8,8,8,8,8,8,8,8,8,8,8,8,8,8,8,8,8,8,8,8,8,8,8,8,8,8,8,8,8,8,8,8,8,8,8,8,8,8,8,8,8,8,8,8,8,8,8,8,8,8,8,8,8,8,8,8,8,8,8,8,8,8,8,8,8,8,8,8,8,8,8,8,8,8,8,8,8,8,8,8,8,8,8,8,8,8,8,8,8,8,8,8,8,8,8,8]⟩:ByteArray).size:Int)then(some (wrap64 (40+(wrap64 (bt (⟨#[0,1,2,2,3,3,3,3,4,4,4,4,4,4,4,4,5,5,5,5,5,5,5,5,5,5,5,5,5,5,5,5,6,6,6,6,6,6,6,6,6,6,6,6,6,6,6,6,6,6,6,6,6,6,6,6,6,6,6,6,6,6,6,6,7,7,7,7,7,7,7,7,7,7,7,7,7,7,7,7,7,7,7,7,7,7,7,7,7,7,7,7,7,7,7,7,7,7,7,7,7,7,7,7,7,7,7,7,7,7,7,7,7,7,7,7,7,7,7,7,7,7,7,7,7,7,7,7,8,8,8,8,8,8,8,8,8,8,8,8,8,8,8,8,8,8,8,8,8,8,8,8,8,8,8,8,8,8,8,8,8,8,8,8,8,8,8,8,8,8,8,8,8,8,8,8,8,8,8,8,8,8,8,8,8,8,8,8,8,8,8,8,8,8,8,8,8,8,8,8,8,8,8,8,8,8,8,8,8,8,8,8,8,8,8,8,8,8,8,8,8,8,8,8,8,8,8,8,8,8,8,8,8,8,8,8,8,8,8,8,8,8,8,8,8,8,8,8,8,8,8,8,8,8,8,8]⟩:ByteArray) (IntKind.u8.wrap ((x0/4294967296)/256)))))))else(none))else(none))else(none))else(if 0≤IntKind.u8.wrap (x0/4294967296)then(if IntKind.u8.wrap (x0/4294967296)<((⟨#[0,1,2,2,3,3,3,3,4,4,4,4,4,4,4,4,5,5,5,5,5,5,5,5,5,5,5,5,5,5,5,5,6,6,6,6,6,6,6,6,6,6,6,6,6,6,6,6,6,6,6,6,6,6,6,6,6,6,6,6,6,6,6,6,7,7,7,7,7,7,7,7,7,7,7,7,7,7,7,7,7,7,7,7,7,7,7,7,7,7,7,7,7,7,7,7,7,7,7,7,7,7,7,7,7,7,7,7,7,7,7,7,7,7,7,7,7,7,7,7,7,7,7,7,7,7,7,7,8,8,8,8,8,8,8,8,8,8,8,8,8,8,8,8,8,8,8,8,8,8,8,8,8,8,8,8,8,8,8,8,8,8,8,8,8,8,8,8,8,8,8,8,8,8,8,8,8,8,8,8,8,8,8,8,8,8,8,8,8,8,8,8,8,8,8,8,8,8,8,8,8,8,8,8,8,8,8,8,8,8,8,8,8,8,8,8,8,8,8,8,8,8,8,8,8,8,8,8,8,8,8,8,8,8,8,8,8,8,8,8,8,8,8,8,8,8,8,8,8,8,8,8,8,8,8,8]⟩:ByteArray).size:Int)then(some (wrap64 (32+(wrap64 (bt (⟨#[0,1,2,2,3,3,3,3,4,4,4,4,4,4,4,4,5,5,5,5,5,5,5,5,5,5,5,5,5,5,5,5,6,6,6,6,6,6,6,6,6,6,6,6,6,6,6,6,6,6,6,6,6,6,6,6,6,6,6,6,6,6,6,6,7,7,7,7,7,7,7,7,7,7,7,7,7,7,7,7,7,7,7,7,7,7,7,7,7,7,7,7,7,7,7,7,7,7,7,7,7,7,7,7,7,7,7,7,7,7,7,7,7,7,7,7,7,7,7,7,7,7,7,7,7,7,7,7,8,8,8,8,8,8,8,8,8,8,8,8,8,8,8,8,8,8,8,8,8,8,8,8,8,8,8,8,8,8,8,8,8,8,8,8,8,8,8,8,8,8,8,8,8,8,8,8,8,8,8,8,8,8,8,8,8,8,8,8,8,8,8,8,8,8,8,8,8,8,8,8,8,8,8,8,8,8,8,8,8,8,8,8,8,8,8,8,8,8,8,8,8,8,8,8,8,8,8,8,8,8,8,8,8,8,8,8,8,8,8,8,8,8,8,8,8,8,8,8,8,8,8,8,8,8,8,8]⟩:ByteArray) (IntKind.u8.wrap (x0/4294967296)))))))else(none))else(none))))else(none))else(if x0≥65536 then(if(0:Int)≤16 then(if x0/65536≥256 then(if(0:Int)≤8 then(if 0≤IntKind.u8.wrap ((x0/65536)/256)then(if IntKind.u8.wrap ((x0/65536)/256)<((⟨#[0,1,2,2,3,3,3,3,4,4,4,4,4,4,4,4,5,5,5,5,5,5,5,5,5,5,5,5,5,5,5,5,6,6,6,6,6,6,6,6,6,6,6,6,6,6,6,6,6,6,6,6,6,6,6,6,6,6,6,6,6,6,6,6,7,7,7,7,7,7,7,7,7,7,7,7,7,7,7,7,7,7,7,7,7,7,7,7,7,7,7,7,7,7,7,7,7,7,7,7,7,7,7,7,7,7,7,7,7,7,7,7,7,7,7,7,7,7,7,7,7,7,7,7,7,7,7,7,8,8,8,8,8,8,8,8,8,8,8,8,8,8,8,8,8,8,8,8,8,8,8,8,8,8,8,8,8,8,8,8,8,8,8,8,8,8,8,8,8,8,8,8,8,8,8,8,8,8,8,8,8,8,8,8,8,8,8,8,8,8,8,8,8,8,8,8,8,8,8,8,8,8,8,8,8,8,8,8,8,8,8,8,8,8,8,8,8,8,8,8,8,8,8,8,8,8,8,8,8,8,8,8,8,8,8,8,8,8,8,8,8,8,8,8,8,8,8,8,8,8,8,8,8,8,8,8]⟩:ByteArray).size:Int)then(some (wrap64 (24+(wrap64 (bt (⟨#[0,1,2,2,3,3,3,3,4,4,4,4,4,4,4,4,5,5,5,5,5,5,5,5,5,5,5,5,5,5,5,5,6,6,6,6,6,6,6,6,6,6,6,6,6,6,6,6,6,6,6,6,6,6,6,6,6,6,6,6,6,6,6,6,7,7,7,7,7,7,7,7,7,7,7,7,7,7,7,7,7,7,7,7,7,7,7,7,7,7,7,7,7,7,7,7,7,7,7,7,7,7,7,7,7,7,7,7,7,7,7,7,7,7,7,7,7,7,7,7,7,7,7,7,7,7,7,7,8,8,8,8,8,8,8,8,8,8,8,8,8,8,8,8,8,8,8,8,8,8,8,8,8,8,8,8,8,8,8,8,8,8,8,8,8,8,8,8,8,8,8,8,8,8,8,8,8,8,8,8,8,8,8,8,8,8,8,8,8,8,8,8,8,8,8,8,8,8,8,8,8,8,8,8,8,8,8,8,8,8,8,8,8,8,8,8,8,8,8,8,8,8,8,8,8,8,8,8,8,8,8,8,8,8,8,8,8,8,8,8,8,8,8,8,8,8,8,8,8,8,8,8,8,8,8,8]⟩:ByteArray) (IntKind.u8.wrap ((x0/65536)/256)))))))else(none))else(none))else(none))else(if 0≤IntKind.u8.wrap (x0/65536)then(if IntKind.u8.wrap (x0/65536)<((⟨#[0,1,2,2,3,3,3,3,4,4,4,4,4,4,4,4,5,5,5,5,5,5,5,5,5,5,5,5,5,5,5,5,6,6,6,6,6,6,6,6,6,6,6,6,6,6,6,6,6,6,6,6,6,6,6,6,6,6,6,6,6,6,6,6,7,7,7,7,7,7,7,7,7,7,7,7,7,7,7,7,7,7,7,7,7,7,7,7,7,7,7,7,7,7,7,7,7,7,7,7,7,7,7,7,7,7,7,7,7,7,7,7,7,7,7,7,7,7,7,7,7,7,7,7,7,7,7,7,8,8,8,8,8,8,8,8,8,8,8,8,8,8,8,8,8,8,8,8,8,8,8,8,8,8,8,8,8,8,8,8,8,8,8,8,8,8,8,8,8,8,8,8,8,8,8,8,8,8,8,8,8,8,8,8,8,8,8,8,8,8,8,8,8,8,8,8,8,8,8,8,8,8,8,8,8,8,8,8,8,8,8,8,8,8,8,8,8,8,8,8,8,8,8,8,8,8,8,8,8,8,8,8,8,8,8,8,8,8,8,8,8,8,8,8,8,8,8,8,8,8,8,8,8,8,8,8]⟩:ByteArray).size:Int)then(some (wrap64 (16+(wrap64 (bt (⟨#[0,1,2,2,3,3,3,3,4,4,4,4,4,4,4,4,5,5,5,5,5,5,5,5,5,5,5,5,5,5,5,5,6,6,6,6,6,6,6,6,6,6,6,6,6,6,6,6,6,6,6,6,6,6,6,6,6,6,6,6,6,6,6,6,7,7,7,7,7,7,7,7,7,7,7,7,7,7,7,7,7,7,7,7,7,7,7,7,7,7,7,7,7,7,7,7,7,7,7,7,7,7,7,7,7,7,7,7,7,7,7,7,7,7,7,7,7,7,7,7,7,7,7,7,7,7,7,7,8,8,8,8,8,8,8,8,8,8,8,8,8,8,8,8,8,8,8,8,8,8,8,8,8,8,8,8,8,8,8,8,8,8,8,8,8,8,8,8,8,8,8,8,8,8,8,8,8,8,8,8,8,8,8,8,8,8,8,8,8,8,8,8,8,8,8,8,8,8,8,8,8,8,8,8,8,8,8,8,8,8,8,8,8,8,8,8,8,8,8,8,8,8,8,8,8,8,8,8,8,8,8,8,8,8,8,8,8,8,8,8,8,8,8,8,8,8,8,8,8,8,8,8,8,8,8,8]⟩:ByteArray) (IntKind.u8.wrap (x0/65536)))))))else(none))else(none)))else(none))else(if x0≥256 then(if(0:Int)≤8 then(if 0≤IntKind.u8.wrap (x0/256)then(if IntKind.u8.wrap (x0/256)<((⟨#[0,1,2,2,3,3,3,3,4,4,4,4,4,4,4,4,5,5,5,5,5,5,5,5,5,5,5,5,5,5,5,5,6,6,6,6,6,6,6,6,6,6,6,6,6,6,6,6,6,6,6,6,6,6,6,6,6,6,6,6,6,6,6,6,7,7,7,7,7,7,7,7,7,7,7,7,7,7,7,7,7,7,7,7,7,7,7,7,7,7,7,7,7,7,7,7,7,7,7,7,7,7,7,7,7,7,7,7,7,7,7,7,7,7,7,7,7,7,7,7,7,7,7,7,7,7,7,7,8,8,8,8,8,8,8,8,8,8,8,8,8,8,8,8,8,8,8,8,8,8,8,8,8,8,8,8,8,8,8,8,8,8,8,8,8,8,8,8,8,8,8,8,8,8,8,8,8,8,8,8,8,8,8,8,8,8,8,8,8,8,8,8,8,8,8,8,8,8,8,8,8,8,8,8,8,8,8,8,8,8,8,8,8,8,8,8,8,8,8,8,8,8,8,8,8,8,8,8,8,8,8,8,8,8,8,8,8,8,8,8,8,8,8,8,8,8,8,8,8,8,8,8,8,8,8,8]⟩:ByteArray).size:Int)then(some (wrap64 (8+(wrap64 (bt (⟨#[0,1,2,2,3,3,3,3,4,4,4,4,4,4,4,4,5,5,5,5,5,5,5,5,5,5,5,5,5,5,5,5,6,6,6,6,6,6,6,6,6,6,6,6,6,6,6,6,6,6,6,6,6,6,6,6,6,6,6,6,6,6,6,6,7,7,7,7,7,7,7,7,7,7,7,7,7,7,7,7,7,7,7,7,7,7,7,7,7,7,7,7,7,7,7,7,7,7,7,7,7,7,7,7,7,7,7,7,7,7,7,7,7,7,7,7,7,7,7,7,7,7,7,7,7,7,7,7,8,8,8,8,8,8,8,8,8,8,8,8,8,8,8,8,8,8,8,8,8,8,8,8,8,8,8,8,8,8,8,8,8,8,8,8,8,8,8,8,8,8,8,8,8,8,8,8,8,8,8,8,8,8,8,8,8,8,8,8,8,8,8,8,8,8,8,8,8,8,8,8,8,8,8,8,8,8,8,8,8,8,8,8,8,8,8,8,8,8,8,8,8,8,8,8,8,8,8,8,8,8,8,8,8,8,8,8,8,8,8,8,8,8,8,8,8,8,8,8,8,8,8,8,8,8,8,8]⟩:ByteArray) (IntKind.u8.wrap (x0/256)))))))else(none))else(none))else(none))else(if 0≤IntKind.u8.wrap (x0)then(if IntKind.u8.wrap (x0)<((⟨#[0,1,2,2,3,3,3,3,4,4,4,4,4,4,4,4,5,5,5,5,5,5,5,5,5,5,5,5,5,5,5,5,6,6,6,6,6,6,6,6,6,6,6,6,6,6,6,6,6,6,6,6,6,6,6,6,6,6,6,6,6,6,6,6,7,7,7,7,7,7,7,7,7,7,7,7,7,7,7,7,7,7,7,7,7,7,7,7,7,7,7,7,7,7,7,7,7,7,7,7,7,7,7,7,7,7,7,7,7,7,7,7,7,7,7,7,7,7,7,7,7,7,7,7,7,7,7,7,8,8,8,8,8,8,8,8,8,8,8,8,8,8,8,8,8,8,8,8,8,8,8,8,8,8,8,8,8,8,8,8,8,8,8,8,8,8,8,8,8,8,8,8,8,8,8,8,8,8,8,8,8,8,8,8,8,8,8,8,8,8,8,8,8,8,8,8,8,8,8,8,8,8,8,8,8,8,8,8,8,8,8,8,8,8,8,8,8,8,8,8,8,8,8,8,8,8,8,8,8,8,8,8,8,8,8,8,8,8,8,8,8,8,8,8,8,8,8,8,8,8,8,8,8,8,8,8]⟩:ByteArray).size:Int)then(some (wrap64 (0+(wrap64 (bt (⟨#[0,1,2,2,3,3,3,3,4,4,4,4,4,4,4,4,5,5,5,5,5,5,5,5,5,5,5,5,5,5,5,5,6,6,6,6,6,6,6,6,6,6,6,6,6,6,6,6,6,6,6,6,6,6,6,6,6,6,6,6,6,6,6,6,7,7,7,7,7,7,7,7,7,7,7,7,7,7,7,7,7,7,7,7,7,7,7,7,7,7,7,7,7,7,7,7,7,7,7,7,7,7,7,7,7,7,7,7,7,7,7,7,7,7,7,7,7,7,7,7,7,7,7,7,7,7,7,7,8,8,8,8,8,8,8,8,8,8,8,8,8,8,8,8,8,8,8,8,8,8,8,8,8,8,8,8,8,8,8,8,8,8,8,8,8,8,8,8,8,8,8,8,8,8,8,8,8,8,8,8,8,8,8,8,8,8,8,8,8,8,8,8,8,8,8,8,8,8,8,8,8,8,8,8,8,8,8,8,8,8,8,8,8,8,8,8,8,8,8,8,8,8,8,8,8,8,8,8,8,8,8,8,8,8,8,8,8,8,8,8,8,8,8,8,8,8,8,8,8,8,8,8,8,8,8,8]⟩:ByteArray) (IntKind.u8.wrap (x0)))))))else(none))else(none))))
theorem e272 (s:ask272.T):evFn E0 (orcOf (fes272)) an272 (loOf (les272)) 25 cd272 Tryz.f272.results.toList rm272 (ask272.mk' s) (decW rsk272 dec272)=B272 s.1.1:=by kernel_rfl
noncomputable def an261:Ann:=⟨[],[],[]⟩
noncomputable def cd261:Code:=(Tryz.f261.body).getD .skip
noncomputable def rm261:List RM:=[.d (.it .i64)]
noncomputable def les261:List (LoE R261):=[]
noncomputable def fes261 (c272:Int→Option R272):List FE:=[(fe272 c272)]
section
variable (c272:Int→Option R272)
noncomputable def B261 (x0:Int):Option R261:=(c272 x0).bind fun r1=>(some (wrap64 (64-r1)))
theorem e261 (s:ask261.T):evFn E0 (orcOf (fes261 c272)) an261 (loOf (les261)) 6 cd261 Tryz.f261.results.toList rm261 (ask261.mk' s) (decW rsk261 dec261)=B261 c272 s.1.1:=by kernel_rfl
end
noncomputable def an260:Ann:=⟨[(17,[(2, .any),(8, .any),(9, .any),(10, .any),(11, .any),(13, .any),(14, .any),(15, .any),(16, .any)]),(24,[(2, .any),(8, .any),(9, .any),(10, .any),(14, .any),(15, .any),(16, .any),(17, .any),(18, .any)])],[],[]⟩
noncomputable def cd260:Code:=(Tryz.f260.body).getD .skip
noncomputable def p260:List Pos:=posns an260 [] cd260
noncomputable def rm260:List RM:=[.d (.it .u64), .d (.it .u64)]
noncomputable def rk260 (s0:SbT ask260.bl):KX R260:=retK E0 Tryz.f260.results.toList rm260 (mkB ask260.bl s0) (decW rsk260 dec260)
noncomputable def k260l0:Sk:=⟨[(2, .d (.it .u64)),(8, .d (.it .u64)),(9, .d (.it .u64)),(10, .d (.it .u64)),(11, .d (.it .u64)),(13, .d (.it .u64)),(14, .d (.it .u64)),(15, .d (.it .u64)),(16, .d (.it .u64))],[]⟩
noncomputable def k260l1:Sk:=⟨[(2, .d (.it .u64)),(8, .d (.it .u64)),(9, .d (.it .u64)),(10, .d (.it .u64)),(14, .d (.it .u64)),(15, .d (.it .u64)),(16, .d (.it .u64)),(17, .d (.it .u64)),(18, .d (.it .u64))],[]⟩
noncomputable def les260 (gl0:Int→Int→Int→Int→Int→Int→Int→Int→Int→Option R260) (gl1:Int→Int→Int→Int→Int→Int→Int→Int→Int→Option R260):List (LoE R260):=[⟨17,k260l0,fun s=>gl0 s.1.1 s.1.2.1 s.1.2.2.1 s.1.2.2.2.1 s.1.2.2.2.2.1 s.1.2.2.2.2.2.1 s.1.2.2.2.2.2.2.1 s.1.2.2.2.2.2.2.2.1 s.1.2.2.2.2.2.2.2.2.1⟩,⟨24,k260l1,fun s=>gl1 s.1.1 s.1.2.1 s.1.2.2.1 s.1.2.2.2.1 s.1.2.2.2.2.1 s.1.2.2.2.2.2.1 s.1.2.2.2.2.2.2.1 s.1.2.2.2.2.2.2.2.1 s.1.2.2.2.2.2.2.2.2.1⟩]
noncomputable def fes260 (c261:Int→Option R261):List FE:=[(fe261 c261)]
section
variable (gl0:Int→Int→Int→Int→Int→Int→Int→Int→Int→Option R260) (gl1:Int→Int→Int→Int→Int→Int→Int→Int→Int→Option R260) (c261:Int→Option R261)
noncomputable def B260l0 (x2:Int) (x8:Int) (x9:Int) (x10:Int) (x11:Int) (x13:Int) (x14:Int) (x15:Int) (x16:Int):Option R260:=if x15≥4294967296 then(if IntKind.u64.wrap (x16+x9)≥4294967296 then(if x9=0 then(none)else(gl1 x2 x8 x9 x10 x14 (IntKind.u64.wrap (x15-1)) (IntKind.u64.wrap ((IntKind.u64.wrap ((IntKind.u64.wrap ((IntKind.u64.wrap (x11*4294967296))+x13))-(IntKind.u64.wrap ((IntKind.u64.wrap (x15-1))*x2))))-(IntKind.u64.wrap ((IntKind.u64.wrap (Int.tdiv (IntKind.u64.wrap ((IntKind.u64.wrap ((IntKind.u64.wrap (x11*4294967296))+x13))-(IntKind.u64.wrap ((IntKind.u64.wrap (x15-1))*x2)))) x9))*x9)))) (IntKind.u64.wrap ((IntKind.u64.wrap ((IntKind.u64.wrap (x11*4294967296))+x13))-(IntKind.u64.wrap ((IntKind.u64.wrap (x15-1))*x2)))) (IntKind.u64.wrap (Int.tdiv (IntKind.u64.wrap ((IntKind.u64.wrap ((IntKind.u64.wrap (x11*4294967296))+x13))-(IntKind.u64.wrap ((IntKind.u64.wrap (x15-1))*x2)))) x9))))else(gl0 x2 x8 x9 x10 x11 x13 x14 (IntKind.u64.wrap (x15-1)) (IntKind.u64.wrap (x16+x9))))else(if IntKind.u64.wrap (x15*x10)>IntKind.u64.wrap ((IntKind.u64.wrap (4294967296*x16))+x13)then(if IntKind.u64.wrap (x16+x9)≥4294967296 then(if x9=0 then(none)else(gl1 x2 x8 x9 x10 x14 (IntKind.u64.wrap (x15-1)) (IntKind.u64.wrap ((IntKind.u64.wrap ((IntKind.u64.wrap ((IntKind.u64.wrap (x11*4294967296))+x13))-(IntKind.u64.wrap ((IntKind.u64.wrap (x15-1))*x2))))-(IntKind.u64.wrap ((IntKind.u64.wrap (Int.tdiv (IntKind.u64.wrap ((IntKind.u64.wrap ((IntKind.u64.wrap (x11*4294967296))+x13))-(IntKind.u64.wrap ((IntKind.u64.wrap (x15-1))*x2)))) x9))*x9)))) (IntKind.u64.wrap ((IntKind.u64.wrap ((IntKind.u64.wrap (x11*4294967296))+x13))-(IntKind.u64.wrap ((IntKind.u64.wrap (x15-1))*x2)))) (IntKind.u64.wrap (Int.tdiv (IntKind.u64.wrap ((IntKind.u64.wrap ((IntKind.u64.wrap (x11*4294967296))+x13))-(IntKind.u64.wrap ((IntKind.u64.wrap (x15-1))*x2)))) x9))))else(gl0 x2 x8 x9 x10 x11 x13 x14 (IntKind.u64.wrap (x15-1)) (IntKind.u64.wrap (x16+x9))))else(if x9=0 then(none)else(gl1 x2 x8 x9 x10 x14 x15 (IntKind.u64.wrap ((IntKind.u64.wrap ((IntKind.u64.wrap ((IntKind.u64.wrap (x11*4294967296))+x13))-(IntKind.u64.wrap (x15*x2))))-(IntKind.u64.wrap ((IntKind.u64.wrap (Int.tdiv (IntKind.u64.wrap ((IntKind.u64.wrap ((IntKind.u64.wrap (x11*4294967296))+x13))-(IntKind.u64.wrap (x15*x2)))) x9))*x9)))) (IntKind.u64.wrap ((IntKind.u64.wrap ((IntKind.u64.wrap (x11*4294967296))+x13))-(IntKind.u64.wrap (x15*x2)))) (IntKind.u64.wrap (Int.tdiv (IntKind.u64.wrap ((IntKind.u64.wrap ((IntKind.u64.wrap (x11*4294967296))+x13))-(IntKind.u64.wrap (x15*x2)))) x9)))))
theorem e260l0 (s0:SbT ask260.bl) (s:k260l0.T):evPos E0 (orcOf (fes260 c261)) 135 an260 (loOf (les260 gl0 gl1)) (rk260 s0) (p260.getD 0 ⟨0,[], .skip⟩) (k260l0.mk' s)=B260l0 gl0 gl1 s.1.1 s.1.2.1 s.1.2.2.1 s.1.2.2.2.1 s.1.2.2.2.2.1 s.1.2.2.2.2.2.1 s.1.2.2.2.2.2.2.1 s.1.2.2.2.2.2.2.2.1 s.1.2.2.2.2.2.2.2.2.1:=by kernel_rfl
noncomputable def B260l1 (x2:Int) (x8:Int) (x9:Int) (x10:Int) (x14:Int) (x15:Int) (x16:Int) (x17:Int) (x18:Int):Option R260:=if x18≥4294967296 then(if IntKind.u64.wrap (x16+x9)≥4294967296 then(if 0≤x8 then(some (IntKind.u64.wrap ((IntKind.u64.wrap (x15*4294967296))+(IntKind.u64.wrap (x18-1))),shr .u64 (IntKind.u64.wrap ((IntKind.u64.wrap ((IntKind.u64.wrap (x17*4294967296))+x14))-(IntKind.u64.wrap ((IntKind.u64.wrap (x18-1))*x2)))) x8))else(none))else(gl1 x2 x8 x9 x10 x14 x15 (IntKind.u64.wrap (x16+x9)) x17 (IntKind.u64.wrap (x18-1))))else(if IntKind.u64.wrap (x18*x10)>IntKind.u64.wrap ((IntKind.u64.wrap (4294967296*x16))+x14)then(if IntKind.u64.wrap (x16+x9)≥4294967296 then(if 0≤x8 then(some (IntKind.u64.wrap ((IntKind.u64.wrap (x15*4294967296))+(IntKind.u64.wrap (x18-1))),shr .u64 (IntKind.u64.wrap ((IntKind.u64.wrap ((IntKind.u64.wrap (x17*4294967296))+x14))-(IntKind.u64.wrap ((IntKind.u64.wrap (x18-1))*x2)))) x8))else(none))else(gl1 x2 x8 x9 x10 x14 x15 (IntKind.u64.wrap (x16+x9)) x17 (IntKind.u64.wrap (x18-1))))else(if 0≤x8 then(some (IntKind.u64.wrap ((IntKind.u64.wrap (x15*4294967296))+x18),shr .u64 (IntKind.u64.wrap ((IntKind.u64.wrap ((IntKind.u64.wrap (x17*4294967296))+x14))-(IntKind.u64.wrap (x18*x2)))) x8))else(none)))
theorem e260l1 (s0:SbT ask260.bl) (s:k260l1.T):evPos E0 (orcOf (fes260 c261)) 135 an260 (loOf (les260 gl0 gl1)) (rk260 s0) (p260.getD 1 ⟨0,[], .skip⟩) (k260l1.mk' s)=B260l1 gl1 s.1.1 s.1.2.1 s.1.2.2.1 s.1.2.2.2.1 s.1.2.2.2.2.1 s.1.2.2.2.2.2.1 s.1.2.2.2.2.2.2.1 s.1.2.2.2.2.2.2.2.1 s.1.2.2.2.2.2.2.2.2.1:=by kernel_rfl
noncomputable def B260 (x0:Int) (x1:Int) (x2:Int):Option R260:=if x2=0 then(none)else(if x2≤x0 then(none)else(if x0=0 then(if x2=0 then(none)else(if x2=0 then(none)else(some (IntKind.u64.wrap (Int.tdiv x1 x2),Int.tmod x1 x2))))else((c261 x2).bind fun r1=>(if 0≤IntKind.u64.wrap (r1)then(if(0:Int)≤32 then(if 0≤IntKind.u64.wrap (r1)then(if 0≤IntKind.u64.wrap (64-(IntKind.u64.wrap (r1)))then(if 0≤IntKind.u64.wrap (r1)then(if(0:Int)≤32 then(if(shl .u64 x2 (IntKind.u64.wrap (r1)))/4294967296=0 then(none)else(gl0 (shl .u64 x2 (IntKind.u64.wrap (r1))) (IntKind.u64.wrap (r1)) ((shl .u64 x2 (IntKind.u64.wrap (r1)))/4294967296) (Go.bits .and .u64 (shl .u64 x2 (IntKind.u64.wrap (r1))) 4294967295) (Go.bits .or .u64 (shl .u64 x0 (IntKind.u64.wrap (r1))) (shr .u64 x1 (IntKind.u64.wrap (64-(IntKind.u64.wrap (r1)))))) ((shl .u64 x1 (IntKind.u64.wrap (r1)))/4294967296) (Go.bits .and .u64 (shl .u64 x1 (IntKind.u64.wrap (r1))) 4294967295) (IntKind.u64.wrap (Int.tdiv (Go.bits .or .u64 (shl .u64 x0 (IntKind.u64.wrap (r1))) (shr .u64 x1 (IntKind.u64.wrap (64-(IntKind.u64.wrap (r1)))))) ((shl .u64 x2 (IntKind.u64.wrap (r1)))/4294967296))) (IntKind.u64.wrap ((Go.bits .or .u64 (shl .u64 x0 (IntKind.u64.wrap (r1))) (shr .u64 x1 (IntKind.u64.wrap (64-(IntKind.u64.wrap (r1))))))-(IntKind.u64.wrap ((IntKind.u64.wrap (Int.tdiv (Go.bits .or .u64 (shl .u64 x0 (IntKind.u64.wrap (r1))) (shr .u64 x1 (IntKind.u64.wrap (64-(IntKind.u64.wrap (r1)))))) ((shl .u64 x2 (IntKind.u64.wrap (r1)))/4294967296)))*((shl .u64 x2 (IntKind.u64.wrap (r1)))/4294967296)))))))else(none))else(none))else(none))else(none))else(none))else(none)))))
theorem e260 (s:ask260.T):evFn E0 (orcOf (fes260 c261)) an260 (loOf (les260 gl0 gl1)) 135 cd260 Tryz.f260.results.toList rm260 (ask260.mk' s) (decW rsk260 dec260)=B260 gl0 c261 s.1.1 s.1.2.1 s.1.2.2.1:=by kernel_rfl
end
noncomputable def an262:Ann:=⟨[(3,[(1, .any),(5, .any),(12, .any),(13, .any),(14, .any)])],[],[]⟩
noncomputable def cd262:Code:=(Tryz.f262.body).getD .skip
noncomputable def p262:List Pos:=posns an262 [] cd262
noncomputable def rm262:List RM:=[.own (.it .u64)]
noncomputable def rk262 (s0:SbT ask262.bl):KX R262:=retK E0 Tryz.f262.results.toList rm262 (mkB ask262.bl s0) (decW rsk262 dec262)
noncomputable def k262l0:Sk:=⟨[(1, .d (.it .i64)),(5, .f (.a (.ref 5))),(12, .d (.li (.it .u64))),(13, .d (.it .i64)),(14, .d (.it .i64))],[(5, .own (.it .u64) true)]⟩
noncomputable def les262 (gl0:Int→(List Int)→Int→Int→(List Int)→Option R262):List (LoE R262):=[⟨3,k262l0,fun s=>gl0 s.1.1 s.1.2.1 s.1.2.2.1 s.1.2.2.2.1 s.2.1⟩]
noncomputable def fes262:List FE:=[]
section
variable (gl0:Int→(List Int)→Int→Int→(List Int)→Option R262)
noncomputable def B262l0 (x1:Int) (x12:(List Int)) (x13:Int) (x14:Int) (x5:(List Int)):Option R262:=if x14<x13 then(if 0≤x14 then(if x14<(x12.length:Int)then(if 0≤x14 then(if x14<(x5.length:Int)then(if 0≤x1 then(if 0≤x14 then(if x14<(x5.length:Int)then(if x1>0 then(if 0≤wrap64 (64-x1)then(if 0≤wrap64 (x14+1)then(if wrap64 (x14+1)<((x5.set (x14:Int).toNat (Go.bits .or .u64 (rd x5 x14) (shl .u64 (rd x12 x14) x1))).length:Int)then(gl0 x1 x12 x13 (wrap64 (x14+1)) ((x5.set (x14:Int).toNat (Go.bits .or .u64 (rd x5 x14) (shl .u64 (rd x12 x14) x1))).set (wrap64 (x14+1):Int).toNat (shr .u64 (rd x12 x14) (wrap64 (64-x1)))))else(none))else(none))else(none))else(gl0 x1 x12 x13 (wrap64 (x14+1)) (x5.set (x14:Int).toNat (Go.bits .or .u64 (rd x5 x14) (shl .u64 (rd x12 x14) x1)))))else(none))else(none))else(none))else(none))else(none))else(none))else(none))else(some x5)
theorem e262l0 (s0:SbT ask262.bl) (s:k262l0.T):evPos E0 (orcOf (fes262)) 40 an262 (loOf (les262 gl0)) (rk262 s0) (p262.getD 0 ⟨0,[], .skip⟩) (k262l0.mk' s)=B262l0 gl0 s.1.1 s.1.2.1 s.1.2.2.1 s.1.2.2.2.1 s.2.1:=by kernel_rfl
noncomputable def B262 (x0:(List Int)) (x1:Int):Option R262:=if 0≤wrap64 ((x0.length:Int)+1)then(if wrap64 ((x0.length:Int)+1)≤wrap64 ((x0.length:Int)+1)then(if(wrap64 ((x0.length:Int)+1):Int).toNat≤35184372088832 then(gl0 x1 x0 (x0.length:Int) 0 (List.replicate (wrap64 ((x0.length:Int)+1):Int).toNat (0:Int)))else(none))else(none))else(none)
theorem e262 (s:ask262.T):evFn E0 (orcOf (fes262)) an262 (loOf (les262 gl0)) 40 cd262 Tryz.f262.results.toList rm262 (ask262.mk' s) (decW rsk262 dec262)=B262 gl0 s.1.1 s.1.2.1:=by kernel_rfl
end
noncomputable def an252:Ann:=⟨[],[],[]⟩
noncomputable def cd252:Code:=(Tryz.f252.body).getD .skip
noncomputable def rm252:List RM:=[.d (.it .u64), .d (.it .u64)]
noncomputable def les252:List (LoE R252):=[]
noncomputable def fes252:List FE:=[]
noncomputable def B252 (x0:Int) (x1:Int):Option R252:=if(0:Int)≤32 then(if(0:Int)≤32 then(if(0:Int)≤32 then(if(0:Int)≤32 then(if(0:Int)≤32 then(some (IntKind.u64.wrap ((IntKind.u64.wrap ((IntKind.u64.wrap ((x0/4294967296)*(x1/4294967296)))+((IntKind.u64.wrap ((IntKind.u64.wrap ((x0/4294967296)*(Go.bits .and .u64 x1 4294967295)))+((IntKind.u64.wrap ((Go.bits .and .u64 x0 4294967295)*(Go.bits .and .u64 x1 4294967295)))/4294967296)))/4294967296)))+((IntKind.u64.wrap ((Go.bits .and .u64 (IntKind.u64.wrap ((IntKind.u64.wrap ((x0/4294967296)*(Go.bits .and .u64 x1 4294967295)))+((IntKind.u64.wrap ((Go.bits .and .u64 x0 4294967295)*(Go.bits .and .u64 x1 4294967295)))/4294967296))) 4294967295)+(IntKind.u64.wrap ((Go.bits .and .u64 x0 4294967295)*(x1/4294967296)))))/4294967296)),IntKind.u64.wrap (x0*x1)))else(none))else(none))else(none))else(none))else(none)
theorem e252 (s:ask252.T):evFn E0 (orcOf (fes252)) an252 (loOf (les252)) 51 cd252 Tryz.f252.results.toList rm252 (ask252.mk' s) (decW rsk252 dec252)=B252 s.1.1 s.1.2.1:=by kernel_rfl
noncomputable def an263:Ann:=⟨[(8,[(0, .any),(1, .any),(5, .any),(6, .any),(7, .any),(8, .any)]),(15,[(0, .any),(1, .any),(5, .any),(6, .any),(11, .any),(12, .any),(104, .any),(105, .any)]),(28,[(0, .any),(1, .any),(5, .any),(6, .any),(17, .any),(156, .any),(157, .any)])],[],[]⟩
noncomputable def cd263:Code:=(Tryz.f263.body).getD .skip
noncomputable def p263:List Pos:=posns an263 [] cd263
noncomputable def rm263:List RM:=[.d (.it .u64)]
noncomputable def rk263 (s0:SbT ask263.bl):KX R263:=retK E0 Tryz.f263.results.toList rm263 (mkB ask263.bl s0) (decW rsk263 dec263)
noncomputable def k263l0:Sk:=⟨[(0, .f (.a (.ref 2000))),(1, .d (.li (.it .u64))),(5, .d (.it .i64)),(6, .d (.it .u64)),(7, .d (.it .u64)),(8, .d (.it .u64))],[(2000, .own (.it .u64) false)]⟩
noncomputable def k263l1:Sk:=⟨[(0, .f (.a (.ref 2000))),(1, .d (.li (.it .u64))),(5, .d (.it .i64)),(6, .d (.it .u64)),(11, .d (.it .u64)),(12, .d (.it .u64)),(104, .d (.it .i64)),(105, .d (.it .i64))],[(2000, .own (.it .u64) false)]⟩
noncomputable def k263l2:Sk:=⟨[(0, .f (.a (.ref 2000))),(1, .d (.li (.it .u64))),(5, .d (.it .i64)),(6, .d (.it .u64)),(17, .d (.it .u64)),(156, .d (.it .i64)),(157, .d (.it .i64))],[(2000, .own (.it .u64) false)]⟩
noncomputable def les263 (gl0:(List Int)→Int→Int→Int→Int→(List Int)→Option R263) (gl1:(List Int)→Int→Int→Int→Int→Int→Int→(List Int)→Option R263) (gl2:(List Int)→Int→Int→Int→Int→Int→(List Int)→Option R263):List (LoE R263):=[⟨8,k263l0,fun s=>gl0 s.1.1 s.1.2.1 s.1.2.2.1 s.1.2.2.2.1 s.1.2.2.2.2.1 s.2.1⟩,⟨15,k263l1,fun s=>gl1 s.1.1 s.1.2.1 s.1.2.2.1 s.1.2.2.2.1 s.1.2.2.2.2.1 s.1.2.2.2.2.2.1 s.1.2.2.2.2.2.2.1 s.2.1⟩,⟨28,k263l2,fun s=>gl2 s.1.1 s.1.2.1 s.1.2.2.1 s.1.2.2.2.1 s.1.2.2.2.2.1 s.1.2.2.2.2.2.1 s.2.1⟩]
noncomputable def fes263 (c232:Int→Int→Int→Option R232) (c251:Int→Int→Int→Option R251) (c252:Int→Int→Option R252) (c260:Int→Int→Int→Option R260):List FE:=[(fe232 c232),(fe251 c251),(fe252 c252),(fe260 c260)]
section
variable (gl0:(List Int)→Int→Int→Int→Int→(List Int)→Option R263) (gl1:(List Int)→Int→Int→Int→Int→Int→Int→(List Int)→Option R263) (gl2:(List Int)→Int→Int→Int→Int→Int→(List Int)→Option R263) (c232:Int→Int→Int→Option R232) (c251:Int→Int→Int→Option R251) (c252:Int→Int→Option R252) (c260:Int→Int→Int→Option R260)
noncomputable def B263l0 (x1:(List Int)) (x5:Int) (x6:Int) (x7:Int) (x8:Int) (y0:(List Int)):Option R263:=if x8=0 then(if 0≤wrap64 (x5-2)then(if wrap64 (x5-2)<(x1.length:Int)then((c252 x6 (rd x1 (wrap64 (x5-2)))).bind fun r1=>(if r1.1<x7 then(gl1 x1 x5 x6 0 0 x5 0 y0)else(if r1.1=x7 then(if 0≤wrap64 (x5-2)then(if wrap64 (x5-2)<(y0.length:Int)then(if r1.2≤rd y0 (wrap64 (x5-2))then(gl1 x1 x5 x6 0 0 x5 0 y0)else(if 0≤wrap64 (x5-1)then(if wrap64 (x5-1)<(x1.length:Int)then((c251 x7 (rd x1 (wrap64 (x5-1))) 0).bind fun r2=>(gl0 x1 x5 (IntKind.u64.wrap (x6-1)) r2.1 r2.2 y0))else(none))else(none)))else(none))else(none))else(if 0≤wrap64 (x5-1)then(if wrap64 (x5-1)<(x1.length:Int)then((c251 x7 (rd x1 (wrap64 (x5-1))) 0).bind fun r3=>(gl0 x1 x5 (IntKind.u64.wrap (x6-1)) r3.1 r3.2 y0))else(none))else(none)))))else(none))else(none))else(gl1 x1 x5 x6 0 0 x5 0 y0)
theorem e263l0 (s0:SbT ask263.bl) (s:k263l0.T):evPos E0 (orcOf (fes263 c232 c251 c252 c260)) 186 an263 (loOf (les263 gl0 gl1 gl2)) (rk263 s0) (p263.getD 0 ⟨0,[], .skip⟩) (k263l0.mk' s)=B263l0 gl0 gl1 c251 c252 s.1.1 s.1.2.1 s.1.2.2.1 s.1.2.2.2.1 s.1.2.2.2.2.1 s.2.1:=by kernel_rfl
noncomputable def B263l1 (x1:(List Int)) (x5:Int) (x6:Int) (x11:Int) (x12:Int) (x104:Int) (x105:Int) (y0:(List Int)):Option R263:=if x105<x104 then(if 0≤x105 then(if x105<(x1.length:Int)then((c252 x6 (rd x1 x105)).bind fun r1=>((c251 r1.2 x12 0).bind fun r2=>(if 0≤x105 then(if x105<(y0.length:Int)then((c232 (rd y0 x105) r2.1 x11).bind fun r3=>(if 0≤x105 then(if x105<(y0.length:Int)then(gl1 x1 x5 x6 r3.2 (IntKind.u64.wrap (r1.1+r2.2)) x104 (wrap64 (x105+1)) (y0.set (x105:Int).toNat r3.1))else(none))else(none)))else(none))else(none))))else(none))else(none))else(if 0≤x5 then(if x5<(y0.length:Int)then((c232 (rd y0 x5) x12 x11).bind fun r4=>(if 0≤x5 then(if x5<(y0.length:Int)then(if r4.2=0 then(some (x6,y0.set (x5:Int).toNat r4.1))else(gl2 x1 x5 x6 0 x5 0 (y0.set (x5:Int).toNat r4.1)))else(none))else(none)))else(none))else(none))
theorem e263l1 (s0:SbT ask263.bl) (s:k263l1.T):evPos E0 (orcOf (fes263 c232 c251 c252 c260)) 186 an263 (loOf (les263 gl0 gl1 gl2)) (rk263 s0) (p263.getD 1 ⟨0,[], .skip⟩) (k263l1.mk' s)=B263l1 gl1 gl2 c232 c251 c252 s.1.1 s.1.2.1 s.1.2.2.1 s.1.2.2.2.1 s.1.2.2.2.2.1 s.1.2.2.2.2.2.1 s.1.2.2.2.2.2.2.1 s.2.1:=by kernel_rfl
noncomputable def B263l2 (x1:(List Int)) (x5:Int) (x6:Int) (x17:Int) (x156:Int) (x157:Int) (y0:(List Int)):Option R263:=if x157<x156 then(if 0≤x157 then(if x157<(y0.length:Int)then(if 0≤x157 then(if x157<(x1.length:Int)then((c251 (rd y0 x157) (rd x1 x157) x17).bind fun r1=>(if 0≤x157 then(if x157<(y0.length:Int)then(gl2 x1 x5 x6 r1.2 x156 (wrap64 (x157+1)) (y0.set (x157:Int).toNat r1.1))else(none))else(none)))else(none))else(none))else(none))else(none))else(if 0≤x5 then(if x5<(y0.length:Int)then(if 0≤x5 then(if x5<(y0.length:Int)then(some (IntKind.u64.wrap (x6-1),y0.set (x5:Int).toNat (IntKind.u64.wrap ((rd y0 x5)+x17))))else(none))else(none))else(none))else(none))
theorem e263l2 (s0:SbT ask263.bl) (s:k263l2.T):evPos E0 (orcOf (fes263 c232 c251 c252 c260)) 186 an263 (loOf (les263 gl0 gl1 gl2)) (rk263 s0) (p263.getD 2 ⟨0,[], .skip⟩) (k263l2.mk' s)=B263l2 gl2 c251 s.1.1 s.1.2.1 s.1.2.2.1 s.1.2.2.2.1 s.1.2.2.2.2.1 s.1.2.2.2.2.2.1 s.2.1:=by kernel_rfl
noncomputable def B263 (x1:(List Int)) (y0:(List Int)):Option R263:=if 0≤(x1.length:Int)then(if(x1.length:Int)<(y0.length:Int)then(if 0≤wrap64 ((x1.length:Int)-1)then(if wrap64 ((x1.length:Int)-1)<(x1.length:Int)then(if rd y0 (x1.length:Int)≥rd x1 (wrap64 ((x1.length:Int)-1))then(if 0≤wrap64 ((x1.length:Int)-1)then(if wrap64 ((x1.length:Int)-1)<(y0.length:Int)then(if 0≤wrap64 ((x1.length:Int)-1)then(if wrap64 ((x1.length:Int)-1)<(x1.length:Int)then((c251 (rd y0 (wrap64 ((x1.length:Int)-1))) (rd x1 (wrap64 ((x1.length:Int)-1))) 0).bind fun r1=>(gl0 x1 (x1.length:Int) 18446744073709551615 r1.1 r1.2 y0))else(none))else(none))else(none))else(none))else(if 0≤(x1.length:Int)then(if(x1.length:Int)<(y0.length:Int)then(if 0≤wrap64 ((x1.length:Int)-1)then(if wrap64 ((x1.length:Int)-1)<(y0.length:Int)then(if 0≤wrap64 ((x1.length:Int)-1)then(if wrap64 ((x1.length:Int)-1)<(x1.length:Int)then((c260 (rd y0 (x1.length:Int)) (rd y0 (wrap64 ((x1.length:Int)-1))) (rd x1 (wrap64 ((x1.length:Int)-1)))).bind fun r2=>(gl0 x1 (x1.length:Int) r2.1 r2.2 0 y0))else(none))else(none))else(none))else(none))else(none))else(none)))else(none))else(none))else(none))else(none)
theorem e263 (s:ask263.T):evFn E0 (orcOf (fes263 c232 c251 c252 c260)) an263 (loOf (les263 gl0 gl1 gl2)) 186 cd263 Tryz.f263.results.toList rm263 (ask263.mk' s) (decW rsk263 dec263)=B263 gl0 c251 c260 s.1.1 s.2.1:=by kernel_rfl
end
noncomputable def an233:Ann:=⟨[(7,[(0, .any),(1, .any),(6, .any),(7, .any),(8, .any)]),(17,[(9, .any),(10, .val (.li (.it .u64))),(11, .any),(12, .any),(13, .any),(14, .any)]),(21,[(9, .any),(11, .any),(12, .any),(13, .any),(96, .any),(97, .any)])],[],[]⟩
noncomputable def cd233:Code:=(Tryz.f233.body).getD .skip
noncomputable def p233:List Pos:=posns an233 [] cd233
noncomputable def rm233:List RM:=[.d (.li (.it .u64)), .d (.li (.it .u64))]
noncomputable def rk233 (s0:SbT ask233.bl):KX R233:=retK E0 Tryz.f233.results.toList rm233 (mkB ask233.bl s0) (decW rsk233 dec233)
noncomputable def k233l0:Sk:=⟨[(0, .d (.li (.it .u64))),(1, .d (.li (.it .u64))),(6, .f (.a (.ref 6))),(7, .d (.it .u64)),(8, .d (.it .i64))],[(6, .own (.it .u64) true)]⟩
noncomputable def k233l1:Sk:=⟨[(9, .d (.it .i64)),(10, .d (.li (.it .u64))),(11, .f (.a (.ref 11))),(12, .d (.it .i64)),(13, .f (.a (.ref 13))),(14, .d (.it .i64))],[(11, .own (.it .u64) true),(13, .own (.it .u64) true)]⟩
noncomputable def k233l2:Sk:=⟨[(9, .d (.it .i64)),(11, .f (.a (.ref 11))),(12, .d (.it .i64)),(13, .f (.a (.ref 13))),(96, .d (.it .i64)),(97, .d (.it .i64))],[(11, .own (.it .u64) true),(13, .own (.it .u64) true)]⟩
noncomputable def les233 (gl0:(List Int)→(List Int)→Int→Int→(List Int)→Option R233) (gl1:Int→(List Int)→Int→Int→(List Int)→(List Int)→Option R233) (gl2:Int→Int→Int→Int→(List Int)→(List Int)→Option R233):List (LoE R233):=[⟨7,k233l0,fun s=>gl0 s.1.1 s.1.2.1 s.1.2.2.1 s.1.2.2.2.1 s.2.1⟩,⟨17,k233l1,fun s=>gl1 s.1.1 s.1.2.1 s.1.2.2.1 s.1.2.2.2.1 s.2.1 s.2.2.1⟩,⟨21,k233l2,fun s=>gl2 s.1.1 s.1.2.1 s.1.2.2.1 s.1.2.2.2.1 s.2.1 s.2.2.1⟩]
noncomputable def fes233 (c234:(List Int)→Option R234) (c259:(List Int)→(List Int)→Option R259) (c260:Int→Int→Int→Option R260) (c261:Int→Option R261) (c262:(List Int)→Int→Option R262) (c263:(List Int)→(List Int)→Option R263):List FE:=[(fe234 c234),(fe259 c259),(fe260 c260),(fe261 c261),(fe262 c262),(fe263 c263)]
section
variable (gl0:(List Int)→(List Int)→Int→Int→(List Int)→Option R233) (gl1:Int→(List Int)→Int→Int→(List Int)→(List Int)→Option R233) (gl2:Int→Int→Int→Int→(List Int)→(List Int)→Option R233) (c234:(List Int)→Option R234) (c259:(List Int)→(List Int)→Option R259) (c260:Int→Int→Int→Option R260) (c261:Int→Option R261) (c262:(List Int)→Int→Option R262) (c263:(List Int)→(List Int)→Option R263)
noncomputable def B233l0 (x0:(List Int)) (x1:(List Int)) (x7:Int) (x8:Int) (x6:(List Int)):Option R233:=if x8≥0 then(if 0≤x8 then(if x8<(x0.length:Int)then(if(0:Int)≤0 then(if 0<(x1.length:Int)then((c260 x7 (rd x0 x8) (rd x1 0)).bind fun r1=>(if 0≤x8 then(if x8<(x6.length:Int)then(gl0 x0 x1 r1.2 (wrap64 (x8-1)) (x6.set (x8:Int).toNat r1.1))else(none))else(none)))else(none))else(none))else(none))else(none))else((c234 x6).bind fun r2=>((c234 ([x7]:List Int)).bind fun r3=>(some (r2.2.take (r2.1:Int).toNat,r3.2.take (r3.1:Int).toNat))))
theorem e233l0 (s0:SbT ask233.bl) (s:k233l0.T):evPos E0 (orcOf (fes233 c234 c259 c260 c261 c262 c263)) 137 an233 (loOf (les233 gl0 gl1 gl2)) (rk233 s0) (p233.getD 0 ⟨0,[], .skip⟩) (k233l0.mk' s)=B233l0 gl0 c234 c260 s.1.1 s.1.2.1 s.1.2.2.1 s.1.2.2.2.1 s.2.1:=by kernel_rfl
noncomputable def B233l1 (x9:Int) (x10:(List Int)) (x12:Int) (x14:Int) (x11:(List Int)) (x13:(List Int)):Option R233:=if x14≥0 then(if 0≤x14 then(if x14≤wrap64 ((wrap64 (x14+x12))+1)then(if wrap64 ((wrap64 (x14+x12))+1)≤(x11.length:Int)then(if(x11.length:Int)≤(x11.length:Int)then((c263 x10 (slice_ x11 x14 (wrap64 ((wrap64 (x14+x12))+1)))).bind fun r1=>(if 0≤x14 then(if x14<(x13.length:Int)then(gl1 x9 x10 x12 (wrap64 (x14-1)) (x11.take ((x14:Int).toNat)++r1.2++x11.drop ((wrap64 ((wrap64 (x14+x12))+1):Int).toNat)) (x13.set (x14:Int).toNat r1.1))else(none))else(none)))else(none))else(none))else(none))else(none))else(gl2 x9 x12 x12 0 x11 x13)
theorem e233l1 (s0:SbT ask233.bl) (s:k233l1.T):evPos E0 (orcOf (fes233 c234 c259 c260 c261 c262 c263)) 137 an233 (loOf (les233 gl0 gl1 gl2)) (rk233 s0) (p233.getD 1 ⟨0,[], .skip⟩) (k233l1.mk' s)=B233l1 gl1 gl2 c263 s.1.1 s.1.2.1 s.1.2.2.1 s.1.2.2.2.1 s.2.1 s.2.2.1:=by kernel_rfl
noncomputable def B233l2 (x9:Int) (x12:Int) (x96:Int) (x97:Int) (x11:(List Int)) (x13:(List Int)):Option R233:=if x97<x96 then(if 0≤x97 then(if x97<(x11.length:Int)then(if 0≤x9 then(if 0≤x97 then(if x97<(x11.length:Int)then(if x9>0 then(if wrap64 (x97+1)<((x11.set (x97:Int).toNat (shr .u64 (rd x11 x97) x9)).length:Int)then(if 0≤x97 then(if x97<((x11.set (x97:Int).toNat (shr .u64 (rd x11 x97) x9)).length:Int)then(if 0≤wrap64 (x97+1)then(if wrap64 (x97+1)<((x11.set (x97:Int).toNat (shr .u64 (rd x11 x97) x9)).length:Int)then(if 0≤wrap64 (64-x9)then(if 0≤x97 then(if x97<((x11.set (x97:Int).toNat (shr .u64 (rd x11 x97) x9)).length:Int)then(gl2 x9 x12 x96 (wrap64 (x97+1)) ((x11.set (x97:Int).toNat (shr .u64 (rd x11 x97) x9)).set (x97:Int).toNat (Go.bits .or .u64 (rd (x11.set (x97:Int).toNat (shr .u64 (rd x11 x97) x9)) x97) (shl .u64 (rd (x11.set (x97:Int).toNat (shr .u64 (rd x11 x97) x9)) (wrap64 (x97+1))) (wrap64 (64-x9))))) x13)else(none))else(none))else(none))else(none))else(none))else(none))else(none))else(gl2 x9 x12 x96 (wrap64 (x97+1)) (x11.set (x97:Int).toNat (shr .u64 (rd x11 x97) x9)) x13))else(gl2 x9 x12 x96 (wrap64 (x97+1)) (x11.set (x97:Int).toNat (shr .u64 (rd x11 x97) x9)) x13))else(none))else(none))else(none))else(none))else(none))else((c234 x13).bind fun r1=>(if(0:Int)≤0 then(if 0≤x12 then(if x12≤(x11.length:Int)then(if(x11.length:Int)≤(x11.length:Int)then((c234 (slice_ x11 0 x12)).bind fun r2=>(some (r1.2.take (r1.1:Int).toNat,slice_ (x11.take ((0:Int).toNat)++r2.2++x11.drop ((x12:Int).toNat)) 0 (0+r2.1))))else(none))else(none))else(none))else(none)))
theorem e233l2 (s0:SbT ask233.bl) (s:k233l2.T):evPos E0 (orcOf (fes233 c234 c259 c260 c261 c262 c263)) 137 an233 (loOf (les233 gl0 gl1 gl2)) (rk233 s0) (p233.getD 2 ⟨0,[], .skip⟩) (k233l2.mk' s)=B233l2 gl2 c234 s.1.1 s.1.2.1 s.1.2.2.1 s.1.2.2.2.1 s.2.1 s.2.2.1:=by kernel_rfl
noncomputable def B233 (x0:(List Int)) (x1:(List Int)):Option R233:=(c259 x0 x1).bind fun r1=>(if r1<0 then(some (([]:List Int),x0))else(if(x1.length:Int)=1 then(if 0≤(x0.length:Int)then(if(x0.length:Int)≤(x0.length:Int)then(if((x0.length:Int):Int).toNat≤35184372088832 then(gl0 x0 x1 0 (wrap64 ((x0.length:Int)-1)) (List.replicate ((x0.length:Int):Int).toNat (0:Int)))else(none))else(none))else(none))else(if 0≤wrap64 ((x1.length:Int)-1)then(if wrap64 ((x1.length:Int)-1)<(x1.length:Int)then((c261 (rd x1 (wrap64 ((x1.length:Int)-1)))).bind fun r2=>((c262 x1 r2).bind fun r3=>((c234 r3).bind fun r4=>((c262 x0 r2).bind fun r5=>(if 0≤wrap64 ((wrap64 ((x0.length:Int)-((r4.2.take (r4.1:Int).toNat).length:Int)))+1)then(if wrap64 ((wrap64 ((x0.length:Int)-((r4.2.take (r4.1:Int).toNat).length:Int)))+1)≤wrap64 ((wrap64 ((x0.length:Int)-((r4.2.take (r4.1:Int).toNat).length:Int)))+1)then(if(wrap64 ((wrap64 ((x0.length:Int)-((r4.2.take (r4.1:Int).toNat).length:Int)))+1):Int).toNat≤35184372088832 then(gl1 r2 (r4.2.take (r4.1:Int).toNat) ((r4.2.take (r4.1:Int).toNat).length:Int) (wrap64 ((x0.length:Int)-((r4.2.take (r4.1:Int).toNat).length:Int))) r5 (List.replicate (wrap64 ((wrap64 ((x0.length:Int)-((r4.2.take (r4.1:Int).toNat).length:Int)))+1):Int).toNat (0:Int)))else(none))else(none))else(none))))))else(none))else(none))))
theorem e233 (s:ask233.T):evFn E0 (orcOf (fes233 c234 c259 c260 c261 c262 c263)) an233 (loOf (les233 gl0 gl1 gl2)) 137 cd233 Tryz.f233.results.toList rm233 (ask233.mk' s) (decW rsk233 dec233)=B233 gl0 gl1 c234 c259 c261 c262 s.1.1 s.1.2.1:=by kernel_rfl
end
noncomputable def an224:Ann:=⟨[(2,[(5, .val (.li (.it .u64))),(6, .val (.li (.it .u64)))])],[],[]⟩
noncomputable def cd224:Code:=(Tryz.f224.body).getD .skip
noncomputable def p224:List Pos:=posns an224 [] cd224
noncomputable def rm224:List RM:=[.d .st]
noncomputable def rk224 (s0:SbT ask224.bl):KX R224:=retK E0 Tryz.f224.results.toList rm224 (mkB ask224.bl s0) (decW rsk224 dec224)
noncomputable def k224l0:Sk:=⟨[(5, .d (.li (.it .u64))),(6, .d (.li (.it .u64)))],[]⟩
noncomputable def les224 (gl0:(List Int)→(List Int)→Option R224):List (LoE R224):=[⟨2,k224l0,fun s=>gl0 s.1.1 s.1.2.1⟩]
noncomputable def fes224 (c192:(List Int)→Option R192) (c220:ByteArray→Option R220) (c233:(List Int)→(List Int)→Option R233):List FE:=[(fe192 c192),(fe220 c220),(fe233 c233)]
section
variable (gl0:(List Int)→(List Int)→Option R224) (c192:(List Int)→Option R192) (c220:ByteArray→Option R220) (c233:(List Int)→(List Int)→Option R233)
noncomputable def B224l0 (x5:(List Int)) (x6:(List Int)):Option R224:=if(x6.length:Int)>0 then((c233 x5 x6).bind fun r1=>(gl0 x6 r1.2))else((c192 x5).bind fun r2=>(some r2))
theorem e224l0 (s0:SbT ask224.bl) (s:k224l0.T):evPos E0 (orcOf (fes224 c192 c220 c233)) 26 an224 (loOf (les224 gl0)) (rk224 s0) (p224.getD 0 ⟨0,[], .skip⟩) (k224l0.mk' s)=B224l0 gl0 c192 c233 s.1.1 s.1.2.1:=by kernel_rfl
noncomputable def B224 (x0:ByteArray) (x1:ByteArray):Option R224:=(c220 x0).bind fun r1=>((c220 x1).bind fun r2=>(gl0 r1 r2))
theorem e224 (s:ask224.T):evFn E0 (orcOf (fes224 c192 c220 c233)) an224 (loOf (les224 gl0)) 26 cd224 Tryz.f224.results.toList rm224 (ask224.mk' s) (decW rsk224 dec224)=B224 gl0 c220 s.1.1 s.1.2.1:=by kernel_rfl
end
noncomputable def an150:Ann:=⟨[],[],[]⟩
noncomputable def cd150:Code:=(Tryz.f150.body).getD .skip
noncomputable def rm150:List RM:=[.d (.it .i64)]
noncomputable def les150:List (LoE R150):=[]
noncomputable def fes150 (c91:ByteArray→Option R91) (c223:TI→Option R223) (c224:ByteArray→ByteArray→Option R224):List FE:=[(fe91 c91),(fe223 c223),(fe224 c224)]
section
variable (c91:ByteArray→Option R91) (c223:TI→Option R223) (c224:ByteArray→ByteArray→Option R224)
noncomputable def B150 (x0:TQ):Option R150:=(c223 x0.1).bind fun r1=>((c91 x0.2).bind fun r2=>(if r1=1 then(some 1)else(if r2=1 then(some 1)else(cnd ((eqS x0.2 (⟨#[]⟩:ByteArray))) (some 1) (if r1≠0 then(some r1)else(if r2≠0 then(some r2)else(cnd ((!(eqS x0.2 (⟨#[1]⟩:ByteArray)))) ((c224 x0.1.2 x0.2).bind fun r3=>(cnd ((!(eqS r3 (⟨#[1]⟩:ByteArray)))) (some 1) (some 0))) (some 0))))))))
theorem e150 (s:ask150.T):evFn E0 (orcOf (fes150 c91 c223 c224)) an150 (loOf (les150)) 44 cd150 Tryz.f150.results.toList rm150 (ask150.mk' s) (decW rsk150 dec150)=B150 c91 c223 c224 s.1.1:=by kernel_rfl
end
noncomputable def an157:Ann:=⟨[],[],[]⟩
noncomputable def cd157:Code:=(Tryz.f157.body).getD .skip
noncomputable def rm157:List RM:=[.d (.it .i64)]
noncomputable def les157:List (LoE R157):=[]
noncomputable def fes157:List FE:=[]
noncomputable def B157 (x0:TI):Option R157:=cnd (x0.1) (some (-1)) (some (mn (x0.2.size:Int) 1))
theorem e157 (s:ask157.T):evFn E0 (orcOf (fes157)) an157 (loOf (les157)) 9 cd157 Tryz.f157.results.toList rm157 (ask157.mk' s) (decW rsk157 dec157)=B157 s.1.1:=by kernel_rfl
noncomputable def an71:Ann:=⟨[],[],[]⟩
noncomputable def cd71:Code:=(Tryz.f71.body).getD .skip
noncomputable def rm71:List RM:=[.d (.it .i64)]
noncomputable def les71:List (LoE R71):=[]
noncomputable def fes71 (c157:TI→Option R157):List FE:=[(fe157 c157)]
section
variable (c157:TI→Option R157)
noncomputable def B71 (x0:TQ):Option R71:=(c157 x0.1).bind fun r1=>(some r1)
theorem e71 (s:ask71.T):evFn E0 (orcOf (fes71 c157)) an71 (loOf (les71)) 6 cd71 Tryz.f71.results.toList rm71 (ask71.mk' s) (decW rsk71 dec71)=B71 c157 s.1.1:=by kernel_rfl
end
noncomputable def an151:Ann:=⟨[],[],[]⟩
noncomputable def cd151:Code:=(Tryz.f151.body).getD .skip
noncomputable def rm151:List RM:=[.d .bo]
noncomputable def les151:List (LoE R151):=[]
noncomputable def fes151 (c71:TQ→Option R71):List FE:=[(fe71 c71)]
section
variable (c71:TQ→Option R71)
noncomputable def B151 (x0:TQ) (x1:TQ) (x2:TQ):Option R151:=(c71 x2).bind fun r1=>(some (decide (r1≤0)))
theorem e151 (s:ask151.T):evFn E0 (orcOf (fes151 c71)) an151 (loOf (les151)) 10 cd151 Tryz.f151.results.toList rm151 (ask151.mk' s) (decW rsk151 dec151)=B151 c71 s.1.1 s.1.2.1 s.1.2.2.1:=by kernel_rfl
end
noncomputable def an219:Ann:=⟨[(3,[(1, .any),(5, .any),(20, .any),(21, .any),(22, .any)]),(7,[(1, .any),(5, .any),(6, .any),(7, .any),(8, .any),(20, .any),(21, .any),(22, .any),(27, .any),(28, .any),(29, .any)])],[],[]⟩
noncomputable def cd219:Code:=(Tryz.f219.body).getD .skip
noncomputable def p219:List Pos:=posns an219 [] cd219
noncomputable def rm219:List RM:=[.d (.li (.it .u64))]
noncomputable def rk219 (s0:SbT ask219.bl):KX R219:=retK E0 Tryz.f219.results.toList rm219 (mkB ask219.bl s0) (decW rsk219 dec219)
noncomputable def k219l0:Sk:=⟨[(1, .d (.li (.it .u64))),(5, .f (.a (.ref 5))),(20, .d (.li (.it .u64))),(21, .d (.it .i64)),(22, .d (.it .i64))],[(5, .own (.it .u64) true)]⟩
noncomputable def k219l1:Sk:=⟨[(1, .d (.li (.it .u64))),(5, .f (.a (.ref 5))),(6, .d (.it .i64)),(7, .d (.it .u64)),(8, .d (.it .u64)),(20, .d (.li (.it .u64))),(21, .d (.it .i64)),(22, .d (.it .i64)),(27, .d (.li (.it .u64))),(28, .d (.it .i64)),(29, .d (.it .i64))],[(5, .own (.it .u64) true)]⟩
noncomputable def les219 (gl0:(List Int)→(List Int)→Int→Int→(List Int)→Option R219) (gl1:(List Int)→Int→Int→Int→(List Int)→Int→Int→(List Int)→Int→Int→(List Int)→Option R219):List (LoE R219):=[⟨3,k219l0,fun s=>gl0 s.1.1 s.1.2.1 s.1.2.2.1 s.1.2.2.2.1 s.2.1⟩,⟨7,k219l1,fun s=>gl1 s.1.1 s.1.2.1 s.1.2.2.1 s.1.2.2.2.1 s.1.2.2.2.2.1 s.1.2.2.2.2.2.1 s.1.2.2.2.2.2.2.1 s.1.2.2.2.2.2.2.2.1 s.1.2.2.2.2.2.2.2.2.1 s.1.2.2.2.2.2.2.2.2.2.1 s.2.1⟩]
noncomputable def fes219 (c234:(List Int)→Option R234) (c251:Int→Int→Int→Option R251) (c252:Int→Int→Option R252):List FE:=[(fe234 c234),(fe251 c251),(fe252 c252)]
section
variable (gl0:(List Int)→(List Int)→Int→Int→(List Int)→Option R219) (gl1:(List Int)→Int→Int→Int→(List Int)→Int→Int→(List Int)→Int→Int→(List Int)→Option R219) (c234:(List Int)→Option R234) (c251:Int→Int→Int→Option R251) (c252:Int→Int→Option R252)
noncomputable def B219l0 (x1:(List Int)) (x20:(List Int)) (x21:Int) (x22:Int) (x5:(List Int)):Option R219:=if x22<x21 then(if 0≤x22 then(if x22<(x20.length:Int)then(gl1 x1 x22 (rd x20 x22) 0 x20 x21 x22 x1 (x1.length:Int) 0 x5)else(none))else(none))else((c234 x5).bind fun r1=>(some (r1.2.take (r1.1:Int).toNat)))
theorem e219l0 (s0:SbT ask219.bl) (s:k219l0.T):evPos E0 (orcOf (fes219 c234 c251 c252)) 80 an219 (loOf (les219 gl0 gl1)) (rk219 s0) (p219.getD 0 ⟨0,[], .skip⟩) (k219l0.mk' s)=B219l0 gl1 c234 s.1.1 s.1.2.1 s.1.2.2.1 s.1.2.2.2.1 s.2.1:=by kernel_rfl
noncomputable def B219l1 (x1:(List Int)) (x6:Int) (x7:Int) (x8:Int) (x20:(List Int)) (x21:Int) (x22:Int) (x27:(List Int)) (x28:Int) (x29:Int) (x5:(List Int)):Option R219:=if x29<x28 then(if 0≤x29 then(if x29<(x27.length:Int)then((c252 x7 (rd x27 x29)).bind fun r1=>(if 0≤wrap64 (x6+x29)then(if wrap64 (x6+x29)<(x5.length:Int)then((c251 r1.2 (rd x5 (wrap64 (x6+x29))) 0).bind fun r2=>((c251 r2.1 x8 0).bind fun r3=>(if 0≤wrap64 (x6+x29)then(if wrap64 (x6+x29)<(x5.length:Int)then(gl1 x1 x6 x7 (IntKind.u64.wrap ((IntKind.u64.wrap (r1.1+r2.2))+r3.2)) x20 x21 x22 x27 x28 (wrap64 (x29+1)) (x5.set (wrap64 (x6+x29):Int).toNat r3.1))else(none))else(none))))else(none))else(none)))else(none))else(none))else(if 0≤wrap64 (x6+(x1.length:Int))then(if wrap64 (x6+(x1.length:Int))<(x5.length:Int)then(gl0 x1 x20 x21 (wrap64 (x22+1)) (x5.set (wrap64 (x6+(x1.length:Int)):Int).toNat x8))else(none))else(none))
theorem e219l1 (s0:SbT ask219.bl) (s:k219l1.T):evPos E0 (orcOf (fes219 c234 c251 c252)) 80 an219 (loOf (les219 gl0 gl1)) (rk219 s0) (p219.getD 1 ⟨0,[], .skip⟩) (k219l1.mk' s)=B219l1 gl0 gl1 c251 c252 s.1.1 s.1.2.1 s.1.2.2.1 s.1.2.2.2.1 s.1.2.2.2.2.1 s.1.2.2.2.2.2.1 s.1.2.2.2.2.2.2.1 s.1.2.2.2.2.2.2.2.1 s.1.2.2.2.2.2.2.2.2.1 s.1.2.2.2.2.2.2.2.2.2.1 s.2.1:=by kernel_rfl
noncomputable def B219 (x0:(List Int)) (x1:(List Int)):Option R219:=if 0≤wrap64 ((x0.length:Int)+(x1.length:Int))then(if wrap64 ((x0.length:Int)+(x1.length:Int))≤wrap64 ((x0.length:Int)+(x1.length:Int))then(if(wrap64 ((x0.length:Int)+(x1.length:Int)):Int).toNat≤35184372088832 then(gl0 x1 x0 (x0.length:Int) 0 (List.replicate (wrap64 ((x0.length:Int)+(x1.length:Int)):Int).toNat (0:Int)))else(none))else(none))else(none)
theorem e219 (s:ask219.T):evFn E0 (orcOf (fes219 c234 c251 c252)) an219 (loOf (les219 gl0 gl1)) 80 cd219 Tryz.f219.results.toList rm219 (ask219.mk' s) (decW rsk219 dec219)=B219 gl0 s.1.1 s.1.2.1:=by kernel_rfl
end
noncomputable def an144:Ann:=⟨[],[],[]⟩
noncomputable def cd144:Code:=(Tryz.f144.body).getD .skip
noncomputable def rm144:List RM:=[.d .st]
noncomputable def les144:List (LoE R144):=[]
noncomputable def fes144 (c192:(List Int)→Option R192) (c219:(List Int)→(List Int)→Option R219) (c220:ByteArray→Option R220):List FE:=[(fe192 c192),(fe219 c219),(fe220 c220)]
section
variable (c192:(List Int)→Option R192) (c219:(List Int)→(List Int)→Option R219) (c220:ByteArray→Option R220)
noncomputable def B144 (x0:ByteArray) (x1:ByteArray):Option R144:=(c220 x0).bind fun r1=>((c220 x1).bind fun r2=>((c219 r1 r2).bind fun r3=>((c192 r3).bind fun r4=>(some r4))))
theorem e144 (s:ask144.T):evFn E0 (orcOf (fes144 c192 c219 c220)) an144 (loOf (les144)) 11 cd144 Tryz.f144.results.toList rm144 (ask144.mk' s) (decW rsk144 dec144)=B144 c192 c219 c220 s.1.1 s.1.2.1:=by kernel_rfl
end
noncomputable def an188:Ann:=⟨[(2,[(1, .any),(5, .val (.li (.it .u64))),(6, .val (.li (.it .u64)))])],[],[]⟩
noncomputable def cd188:Code:=(Tryz.f188.body).getD .skip
noncomputable def p188:List Pos:=posns an188 [] cd188
noncomputable def rm188:List RM:=[.d .st]
noncomputable def rk188 (s0:SbT ask188.bl):KX R188:=retK E0 Tryz.f188.results.toList rm188 (mkB ask188.bl s0) (decW rsk188 dec188)
noncomputable def k188l0:Sk:=⟨[(1, .d (.it .i64)),(5, .d (.li (.it .u64))),(6, .d (.li (.it .u64)))],[]⟩
noncomputable def les188 (gl0:Int→(List Int)→(List Int)→Option R188):List (LoE R188):=[⟨2,k188l0,fun s=>gl0 s.1.1 s.1.2.1 s.1.2.2.1⟩]
noncomputable def fes188 (c192:(List Int)→Option R192) (c219:(List Int)→(List Int)→Option R219) (c220:ByteArray→Option R220):List FE:=[(fe192 c192),(fe219 c219),(fe220 c220)]
section
variable (gl0:Int→(List Int)→(List Int)→Option R188) (c192:(List Int)→Option R192) (c219:(List Int)→(List Int)→Option R219) (c220:ByteArray→Option R220)
noncomputable def B188l0 (x1:Int) (x5:(List Int)) (x6:(List Int)):Option R188:=if x1>0 then(if Go.bits .and .i64 x1 1=1 then((c219 x5 x6).bind fun r1=>((c219 x6 x6).bind fun r2=>(if(0:Int)≤1 then(gl0 (x1/2) r1 r2)else(none))))else((c219 x6 x6).bind fun r3=>(if(0:Int)≤1 then(gl0 (x1/2) x5 r3)else(none))))else((c192 x5).bind fun r4=>(some r4))
theorem e188l0 (s0:SbT ask188.bl) (s:k188l0.T):evPos E0 (orcOf (fes188 c192 c219 c220)) 25 an188 (loOf (les188 gl0)) (rk188 s0) (p188.getD 0 ⟨0,[], .skip⟩) (k188l0.mk' s)=B188l0 gl0 c192 c219 s.1.1 s.1.2.1 s.1.2.2.1:=by kernel_rfl
noncomputable def B188 (x0:ByteArray) (x1:Int):Option R188:=(c220 x0).bind fun r1=>(gl0 x1 ([1]:List Int) r1)
theorem e188 (s:ask188.T):evFn E0 (orcOf (fes188 c192 c219 c220)) an188 (loOf (les188 gl0)) 25 cd188 Tryz.f188.results.toList rm188 (ask188.mk' s) (decW rsk188 dec188)=B188 gl0 c220 s.1.1 s.1.2.1:=by kernel_rfl
end
noncomputable def an217:Ann:=⟨[(7,[(5, .any),(6, .any),(7, .any),(8, .any),(27, .any),(28, .any)])],[],[]⟩
noncomputable def cd217:Code:=(Tryz.f217.body).getD .skip
noncomputable def p217:List Pos:=posns an217 [] cd217
noncomputable def rm217:List RM:=[.d .st]
noncomputable def rk217 (s0:SbT ask217.bl):KX R217:=retK E0 Tryz.f217.results.toList rm217 (mkB ask217.bl s0) (decW rsk217 dec217)
noncomputable def k217l0:Sk:=⟨[(5, .f (.a (.ref 5))),(6, .f (.a (.ref 6))),(7, .f (.a (.ref 7))),(8, .d (.it .u64)),(27, .d (.it .i64)),(28, .d (.it .i64))],[(5, .own (.it .u64) true),(6, .own (.it .u64) true),(7, .own (.it .u64) true)]⟩
noncomputable def les217 (gl0:Int→Int→Int→(List Int)→(List Int)→(List Int)→Option R217):List (LoE R217):=[⟨7,k217l0,fun s=>gl0 s.1.1 s.1.2.1 s.1.2.2.1 s.2.1 s.2.2.1 s.2.2.2.1⟩]
noncomputable def fes217 (c192:(List Int)→Option R192) (c220:ByteArray→Option R220) (c251:Int→Int→Int→Option R251):List FE:=[(fe192 c192),(fe220 c220),(fe251 c251)]
section
variable (gl0:Int→Int→Int→(List Int)→(List Int)→(List Int)→Option R217) (c192:(List Int)→Option R192) (c220:ByteArray→Option R220) (c251:Int→Int→Int→Option R251)
noncomputable def B217l0 (x8:Int) (x27:Int) (x28:Int) (x5:(List Int)) (x6:(List Int)) (x7:(List Int)):Option R217:=if x28<x27 then(if x28<(x6.length:Int)then(if 0≤x28 then(if x28<(x6.length:Int)then(if 0≤x28 then(if x28<(x5.length:Int)then((c251 (rd x5 x28) (rd x6 x28) x8).bind fun r1=>(if 0≤x28 then(if x28<(x7.length:Int)then(gl0 r1.2 x27 (wrap64 (x28+1)) x5 x6 (x7.set (x28:Int).toNat r1.1))else(none))else(none)))else(none))else(none))else(none))else(none))else(if 0≤x28 then(if x28<(x5.length:Int)then((c251 (rd x5 x28) 0 x8).bind fun r2=>(if 0≤x28 then(if x28<(x7.length:Int)then(gl0 r2.2 x27 (wrap64 (x28+1)) x5 x6 (x7.set (x28:Int).toNat r2.1))else(none))else(none)))else(none))else(none)))else(if 0≤(x5.length:Int)then(if(x5.length:Int)<(x7.length:Int)then((c192 (x7.set ((x5.length:Int):Int).toNat x8)).bind fun r3=>(some r3))else(none))else(none))
theorem e217l0 (s0:SbT ask217.bl) (s:k217l0.T):evPos E0 (orcOf (fes217 c192 c220 c251)) 60 an217 (loOf (les217 gl0)) (rk217 s0) (p217.getD 0 ⟨0,[], .skip⟩) (k217l0.mk' s)=B217l0 gl0 c192 c251 s.1.1 s.1.2.1 s.1.2.2.1 s.2.1 s.2.2.1 s.2.2.2.1:=by kernel_rfl
noncomputable def B217 (x0:ByteArray) (x1:ByteArray):Option R217:=(c220 x0).bind fun r1=>((c220 x1).bind fun r2=>(if(r1.length:Int)<(r2.length:Int)then(if 0≤wrap64 ((r2.length:Int)+1)then(if wrap64 ((r2.length:Int)+1)≤wrap64 ((r2.length:Int)+1)then(if(wrap64 ((r2.length:Int)+1):Int).toNat≤35184372088832 then(gl0 0 (r2.length:Int) 0 r2 r1 (List.replicate (wrap64 ((r2.length:Int)+1):Int).toNat (0:Int)))else(none))else(none))else(none))else(if 0≤wrap64 ((r1.length:Int)+1)then(if wrap64 ((r1.length:Int)+1)≤wrap64 ((r1.length:Int)+1)then(if(wrap64 ((r1.length:Int)+1):Int).toNat≤35184372088832 then(gl0 0 (r1.length:Int) 0 r1 r2 (List.replicate (wrap64 ((r1.length:Int)+1):Int).toNat (0:Int)))else(none))else(none))else(none))))
theorem e217 (s:ask217.T):evFn E0 (orcOf (fes217 c192 c220 c251)) an217 (loOf (les217 gl0)) 60 cd217 Tryz.f217.results.toList rm217 (ask217.mk' s) (decW rsk217 dec217)=B217 gl0 c220 s.1.1 s.1.2.1:=by kernel_rfl
end
noncomputable def an218:Ann:=⟨[],[],[]⟩
noncomputable def cd218:Code:=(Tryz.f218.body).getD .skip
noncomputable def rm218:List RM:=[.d (.it .i64)]
noncomputable def les218:List (LoE R218):=[]
noncomputable def fes218:List FE:=[]
noncomputable def B218 (x0:ByteArray) (x1:ByteArray):Option R218:=if(x0.size:Int)<(x1.size:Int)then(some (-1))else(if(x0.size:Int)=(x1.size:Int)then(cnd ((Op.bytesLess x0.toList x1.toList)) (some (-1)) (cnd ((eqS x0 x1)) (some 0) (some 1)))else(cnd ((eqS x0 x1)) (some 0) (some 1)))
theorem e218 (s:ask218.T):evFn E0 (orcOf (fes218)) an218 (loOf (les218)) 27 cd218 Tryz.f218.results.toList rm218 (ask218.mk' s) (decW rsk218 dec218)=B218 s.1.1 s.1.2.1:=by kernel_rfl
noncomputable def an271:Ann:=⟨[],[],[]⟩
noncomputable def cd271:Code:=(Tryz.f271.body).getD .skip
noncomputable def rm271:List RM:=[.d (.it .i64)]
noncomputable def les271:List (LoE R271):=[]
noncomputable def fes271:List FE:=[]
noncomputable def B271 (x0:Int):Option R271:=if 0≤x0 then(if x0<((⟨#[0,1,2,2,3,3,3,3,4,4,4,4,4,4,4,4,5,5,5,5,5,5,5,5,5,5,5,5,5,5,5,5,6,6,6,6,6,6,6,6,6,6,6,6,6,6,6,6,6,6,6,6,6,6,6,6,6,6,6,6,6,6,6,6,7,7,7,7,7,7,7,7,7,7,7,7,7,7,7,7,7,7,7,7,7,7,7,7,7,7,7,7,7,7,7,7,7,7,7,7,7,7,7,7,7,7,7,7,7,7,7,7,7,7,7,7,7,7,7,7,7,7,7,7,7,7,7,7,8,8,8,8,8,8,8,8,8,8,8,8,8,8,8,8,8,8,8,8,8,8,8,8,8,8,8,8,8,8,8,8,8,8,8,8,8,8,8,8,8,8,8,8,8,8,8,8,8,8,8,8,8,8,8,8,8,8,8,8,8,8,8,8,8,8,8,8,8,8,8,8,8,8,8,8,8,8,8,8,8,8,8,8,8,8,8,8,8,8,8,8,8,8,8,8,8,8,8,8,8,8,8,8,8,8,8,8,8,8,8,8,8,8,8,8,8,8,8,8,8,8,8,8,8,8,8,8]⟩:ByteArray).size:Int)then(some (wrap64 (bt (⟨#[0,1,2,2,3,3,3,3,4,4,4,4,4,4,4,4,5,5,5,5,5,5,5,5,5,5,5,5,5,5,5,5,6,6,6,6,6,6,6,6,6,6,6,6,6,6,6,6,6,6,6,6,6,6,6,6,6,6,6,6,6,6,6,6,7,7,7,7,7,7,7,7,7,7,7,7,7,7,7,7,7,7,7,7,7,7,7,7,7,7,7,7,7,7,7,7,7,7,7,7,7,7,7,7,7,7,7,7,7,7,7,7,7,7,7,7,7,7,7,7,7,7,7,7,7,7,7,7,8,8,8,8,8,8,8,8,8,8,8,8,8,8,8,8,8,8,8,8,8,8,8,8,8,8,8,8,8,8,8,8,8,8,8,8,8,8,8,8,8,8,8,8,8,8,8,8,8,8,8,8,8,8,8,8,8,8,8,8,8,8,8,8,8,8,8,8,8,8,8,8,8,8,8,8,8,8,8,8,8,8,8,8,8,8,8,8,8,8,8,8,8,8,8,8,8,8,8,8,8,8,8,8,8,8,8,8,8,8,8,8,8,8,8,8,8,8,8,8,8,8,8,8,8,8,8,8]⟩:ByteArray) x0)))else(none))else(none)
theorem e271 (s:ask271.T):evFn E0 (orcOf (fes271)) an271 (loOf (les271)) 6 cd271 Tryz.f271.results.toList rm271 (ask271.mk' s) (decW rsk271 dec271)=B271 s.1.1:=by kernel_rfl
noncomputable def an255:Ann:=⟨[],[],[]⟩
noncomputable def cd255:Code:=(Tryz.f255.body).getD .skip
noncomputable def rm255:List RM:=[.d (.it .i64)]
noncomputable def les255:List (LoE R255):=[]
noncomputable def fes255 (c271:Int→Option R271):List FE:=[(fe271 c271)]
section
variable (c271:Int→Option R271)
noncomputable def B255 (x0:ByteArray):Option R255:=cnd ((eqS x0 (⟨#[]⟩:ByteArray))) (some 0) (if(0:Int)≤0 then(if 0<(x0.size:Int)then((c271 (bt x0 0)).bind fun r1=>(some (wrap64 ((wrap64 (8*(wrap64 ((x0.size:Int)-1))))+r1))))else(none))else(none))
theorem e255 (s:ask255.T):evFn E0 (orcOf (fes255 c271)) an255 (loOf (les255)) 13 cd255 Tryz.f255.results.toList rm255 (ask255.mk' s) (decW rsk255 dec255)=B255 c271 s.1.1:=by kernel_rfl
end
noncomputable def an256:Ann:=⟨[],[],[]⟩
noncomputable def cd256:Code:=(Tryz.f256.body).getD .skip
noncomputable def rm256:List RM:=[.d .st]
noncomputable def les256:List (LoE R256):=[]
noncomputable def fes256:List FE:=[]
noncomputable def B256 (x0:Int):Option R256:=if(8:Int)=0 then(none)else(if 0≤wrap64 ((wrap64 (Int.tdiv x0 8))+1)then(if wrap64 ((wrap64 (Int.tdiv x0 8))+1)≤wrap64 ((wrap64 (Int.tdiv x0 8))+1)then(if(wrap64 ((wrap64 (Int.tdiv x0 8))+1):Int).toNat≤281474976710656 then(if(8:Int)=0 then(none)else(if 0≤Int.tmod x0 8 then(if(0:Int)≤0 then(if 0<((List.replicate (wrap64 ((wrap64 (Int.tdiv x0 8))+1):Int).toNat (0:Int)).length:Int)then(some (strOfNums ((List.replicate (wrap64 ((wrap64 (Int.tdiv x0 8))+1):Int).toNat (0:Int)).set (0:Int).toNat (shl .u8 1 (Int.tmod x0 8)))))else(none))else(none))else(none)))else(none))else(none))else(none))
theorem e256 (s:ask256.T):evFn E0 (orcOf (fes256)) an256 (loOf (les256)) 15 cd256 Tryz.f256.results.toList rm256 (ask256.mk' s) (decW rsk256 dec256)=B256 s.1.1:=by kernel_rfl
noncomputable def an225:Ann:=⟨[(3,[(0, .any),(1, .any),(5, .any),(6, .any)])],[],[]⟩
noncomputable def cd225:Code:=(Tryz.f225.body).getD .skip
noncomputable def p225:List Pos:=posns an225 [] cd225
noncomputable def rm225:List RM:=[.d .st]
noncomputable def rk225 (s0:SbT ask225.bl):KX R225:=retK E0 Tryz.f225.results.toList rm225 (mkB ask225.bl s0) (decW rsk225 dec225)
noncomputable def k225l0:Sk:=⟨[(0, .d .st),(1, .d (.it .i64)),(5, .d .st),(6, .d (.it .i64))],[]⟩
noncomputable def les225 (gl0:ByteArray→Int→ByteArray→Int→Option R225):List (LoE R225):=[⟨3,k225l0,fun s=>gl0 s.1.1 s.1.2.1 s.1.2.2.1 s.1.2.2.2.1⟩]
noncomputable def fes225 (c188:ByteArray→Int→Option R188) (c217:ByteArray→ByteArray→Option R217) (c218:ByteArray→ByteArray→Option R218) (c255:ByteArray→Option R255) (c256:Int→Option R256):List FE:=[(fe188 c188),(fe217 c217),(fe218 c218),(fe255 c255),(fe256 c256)]
section
variable (gl0:ByteArray→Int→ByteArray→Int→Option R225) (c188:ByteArray→Int→Option R188) (c217:ByteArray→ByteArray→Option R217) (c218:ByteArray→ByteArray→Option R218) (c255:ByteArray→Option R255) (c256:Int→Option R256)
noncomputable def B225l0 (x0:ByteArray) (x1:Int) (x5:ByteArray) (x6:Int):Option R225:=if x6≥0 then((c256 x6).bind fun r1=>((c217 x5 r1).bind fun r2=>((c188 r2 x1).bind fun r3=>((c218 r3 x0).bind fun r4=>(if r4≤0 then(gl0 x0 x1 r2 (wrap64 (x6-1)))else(gl0 x0 x1 x5 (wrap64 (x6-1))))))))else(some x5)
theorem e225l0 (s0:SbT ask225.bl) (s:k225l0.T):evPos E0 (orcOf (fes225 c188 c217 c218 c255 c256)) 31 an225 (loOf (les225 gl0)) (rk225 s0) (p225.getD 0 ⟨0,[], .skip⟩) (k225l0.mk' s)=B225l0 gl0 c188 c217 c218 c256 s.1.1 s.1.2.1 s.1.2.2.1 s.1.2.2.2.1:=by kernel_rfl
noncomputable def B225 (x0:ByteArray) (x1:Int):Option R225:=(c255 x0).bind fun r1=>(if x1=0 then(none)else(gl0 x0 x1 (⟨#[]⟩:ByteArray) (wrap64 (Int.tdiv (wrap64 ((wrap64 (r1+x1))-1)) x1))))
theorem e225 (s:ask225.T):evFn E0 (orcOf (fes225 c188 c217 c218 c255 c256)) an225 (loOf (les225 gl0)) 31 cd225 Tryz.f225.results.toList rm225 (ask225.mk' s) (decW rsk225 dec225)=B225 gl0 c255 s.1.1 s.1.2.1:=by kernel_rfl
end
noncomputable def an155:Ann:=⟨[],[],[]⟩
noncomputable def cd155:Code:=(Tryz.f155.body).getD .skip
noncomputable def rm155:List RM:=[.d (.ag (.pr .bo .st)), .d .bo]
noncomputable def les155:List (LoE R155):=[]
noncomputable def fes155 (c144:ByteArray→ByteArray→Option R144) (c225:ByteArray→Int→Option R225):List FE:=[(fe144 c144),(fe225 c225)]
section
variable (c144:ByteArray→ByteArray→Option R144) (c225:ByteArray→Int→Option R225)
noncomputable def B155 (x0:TI):Option R155:=cnd (x0.1) (some (false,(⟨#[]⟩:ByteArray),false)) ((c225 x0.2 2).bind fun r1=>((c144 r1 r1).bind fun r2=>(cnd ((!(eqS r2 x0.2))) (some (false,(⟨#[]⟩:ByteArray),false)) (some (false,r1,true)))))
theorem e155 (s:ask155.T):evFn E0 (orcOf (fes155 c144 c225)) an155 (loOf (les155)) 20 cd155 Tryz.f155.results.toList rm155 (ask155.mk' s) (decW rsk155 dec155)=B155 c144 c225 s.1.1:=by kernel_rfl
end
noncomputable def an69:Ann:=⟨[],[],[]⟩
noncomputable def cd69:Code:=(Tryz.f69.body).getD .skip
noncomputable def rm69:List RM:=[.d (.ag (.pr (.ag (.pr .bo .st)) .st)), .d .bo]
noncomputable def les69:List (LoE R69):=[]
noncomputable def fes69 (c122:Int→Option R122) (c155:TI→Option R155):List FE:=[(fe122 c122),(fe155 c155)]
section
variable (c122:Int→Option R122) (c155:TI→Option R155)
noncomputable def B69 (x0:TQ):Option R69:=(c155 x0.1).bind fun r1=>((c155 (false,x0.2)).bind fun r2=>(cnd ((!r1.2.2)) ((c122 0).bind fun r3=>(some (r3.1,r3.2,false))) (cnd ((!r2.2.2)) ((c122 0).bind fun r4=>(some (r4.1,r4.2,false))) (some ((r1.1,r1.2.1),r2.2.1,true)))))
theorem e69 (s:ask69.T):evFn E0 (orcOf (fes69 c122 c155)) an69 (loOf (les69)) 32 cd69 Tryz.f69.results.toList rm69 (ask69.mk' s) (decW rsk69 dec69)=B69 c122 c155 s.1.1:=by kernel_rfl
end
noncomputable def an152:Ann:=⟨[],[],[]⟩
noncomputable def cd152:Code:=(Tryz.f152.body).getD .skip
noncomputable def rm152:List RM:=[.d .bo]
noncomputable def les152:List (LoE R152):=[]
noncomputable def fes152 (c69:TQ→Option R69):List FE:=[(fe69 c69)]
section
variable (c69:TQ→Option R69)
noncomputable def B152 (x0:TQ) (x1:TQ) (x2:TQ):Option R152:=(c69 x2).bind fun r1=>(some r1.2.2)
theorem e152 (s:ask152.T):evFn E0 (orcOf (fes152 c69)) an152 (loOf (les152)) 15 cd152 Tryz.f152.results.toList rm152 (ask152.mk' s) (decW rsk152 dec152)=B152 c69 s.1.1 s.1.2.1 s.1.2.2.1:=by kernel_rfl
end
noncomputable def an153:Ann:=⟨[],[],[]⟩
noncomputable def cd153:Code:=(Tryz.f153.body).getD .skip
noncomputable def rm153:List RM:=[.d .bo]
noncomputable def les153:List (LoE R153):=[]
noncomputable def fes153 (c78:TQ→Option R78):List FE:=[(fe78 c78)]
section
variable (c78:TQ→Option R78)
noncomputable def B153 (x0:TQ) (x1:TQ) (x2:TQ):Option R153:=(c78 x1).bind fun r1=>(some r1)
theorem e153 (s:ask153.T):evFn E0 (orcOf (fes153 c78)) an153 (loOf (les153)) 9 cd153 Tryz.f153.results.toList rm153 (ask153.mk' s) (decW rsk153 dec153)=B153 c78 s.1.1 s.1.2.1 s.1.2.2.1:=by kernel_rfl
end
noncomputable def an143:Ann:=⟨[],[],[]⟩
noncomputable def cd143:Code:=(Tryz.f143.body).getD .skip
noncomputable def rm143:List RM:=[.d (.ag (.pr .bo .st))]
noncomputable def les143:List (LoE R143):=[]
noncomputable def fes143:List FE:=[]
noncomputable def B143 (x0:Bool) (x1:ByteArray):Option R143:=cnd (x0) (some ((!(eqS x1 (⟨#[]⟩:ByteArray))),x1)) (some (false,x1))
theorem e143 (s:ask143.T):evFn E0 (orcOf (fes143)) an143 (loOf (les143)) 12 cd143 Tryz.f143.results.toList rm143 (ask143.mk' s) (decW rsk143 dec143)=B143 s.1.1 s.1.2.1:=by kernel_rfl
noncomputable def an56:Ann:=⟨[],[],[]⟩
noncomputable def cd56:Code:=(Tryz.f56.body).getD .skip
noncomputable def rm56:List RM:=[.d (.ag (.pr .bo .st))]
noncomputable def les56:List (LoE R56):=[]
noncomputable def fes56 (c143:Bool→ByteArray→Option R143) (c144:ByteArray→ByteArray→Option R144):List FE:=[(fe143 c143),(fe144 c144)]
section
variable (c143:Bool→ByteArray→Option R143) (c144:ByteArray→ByteArray→Option R144)
noncomputable def B56 (x0:TI) (x1:TI):Option R56:=(c144 x0.2 x1.2).bind fun r1=>((c143 (!(x0.1==x1.1)) r1).bind fun r2=>(some (r2.1,r2.2)))
theorem e56 (s:ask56.T):evFn E0 (orcOf (fes56 c143 c144)) an56 (loOf (les56)) 16 cd56 Tryz.f56.results.toList rm56 (ask56.mk' s) (decW rsk56 dec56)=B56 c143 c144 s.1.1 s.1.2.1:=by kernel_rfl
end
noncomputable def an189:Ann:=⟨[],[],[]⟩
noncomputable def cd189:Code:=(Tryz.f189.body).getD .skip
noncomputable def rm189:List RM:=[.d .st, .d .st]
noncomputable def les189:List (LoE R189):=[]
noncomputable def fes189 (c192:(List Int)→Option R192) (c220:ByteArray→Option R220) (c233:(List Int)→(List Int)→Option R233):List FE:=[(fe192 c192),(fe220 c220),(fe233 c233)]
section
variable (c192:(List Int)→Option R192) (c220:ByteArray→Option R220) (c233:(List Int)→(List Int)→Option R233)
noncomputable def B189 (x0:ByteArray) (x1:ByteArray):Option R189:=(c220 x0).bind fun r1=>((c220 x1).bind fun r2=>((c233 r1 r2).bind fun r3=>((c192 r3.1).bind fun r4=>((c192 r3.2).bind fun r5=>(some (r4,r5))))))
theorem e189 (s:ask189.T):evFn E0 (orcOf (fes189 c192 c220 c233)) an189 (loOf (les189)) 20 cd189 Tryz.f189.results.toList rm189 (ask189.mk' s) (decW rsk189 dec189)=B189 c192 c220 c233 s.1.1 s.1.2.1:=by kernel_rfl
end
noncomputable def an160:Ann:=⟨[],[],[]⟩
noncomputable def cd160:Code:=(Tryz.f160.body).getD .skip
noncomputable def rm160:List RM:=[.d (.ag (.pr (.ag (.pr .bo .st)) .st))]
noncomputable def les160:List (LoE R160):=[]
noncomputable def fes160 (c143:Bool→ByteArray→Option R143) (c189:ByteArray→ByteArray→Option R189) (c224:ByteArray→ByteArray→Option R224):List FE:=[(fe143 c143),(fe189 c189),(fe224 c224)]
section
variable (c143:Bool→ByteArray→Option R143) (c189:ByteArray→ByteArray→Option R189) (c224:ByteArray→ByteArray→Option R224)
noncomputable def B160 (x0:TI) (x1:TI):Option R160:=(c224 x0.2 x1.2).bind fun r1=>(cnd ((!(eqS r1 (⟨#[1]⟩:ByteArray)))) ((c189 x0.2 r1).bind fun r2=>((c189 x1.2 r1).bind fun r3=>((c143 (!(x0.1==x1.1)) r2.1).bind fun r4=>(some ((r4.1,r4.2),r3.1))))) ((c143 (!(x0.1==x1.1)) x0.2).bind fun r5=>(some ((r5.1,r5.2),x1.2))))
theorem e160 (s:ask160.T):evFn E0 (orcOf (fes160 c143 c189 c224)) an160 (loOf (les160)) 40 cd160 Tryz.f160.results.toList rm160 (ask160.mk' s) (decW rsk160 dec160)=B160 c143 c189 c224 s.1.1 s.1.2.1:=by kernel_rfl
end
noncomputable def an156:Ann:=⟨[],[],[]⟩
noncomputable def cd156:Code:=(Tryz.f156.body).getD .skip
noncomputable def rm156:List RM:=[.d (.ag (.pr (.ag (.pr .bo .st)) .st))]
noncomputable def les156:List (LoE R156):=[]
noncomputable def fes156 (c56:TI→TI→Option R56) (c144:ByteArray→ByteArray→Option R144) (c159:TI→Option R159) (c160:TI→TI→Option R160):List FE:=[(fe56 c56),(fe144 c144),(fe159 c159),(fe160 c160)]
section
variable (c56:TI→TI→Option R56) (c144:ByteArray→ByteArray→Option R144) (c159:TI→Option R159) (c160:TI→TI→Option R160)
noncomputable def B156 (x0:TQ) (x1:TQ):Option R156:=cnd ((eqS x0.2 (⟨#[1]⟩:ByteArray))) (cnd ((eqS x1.2 (⟨#[1]⟩:ByteArray))) ((c56 x0.1 x1.1).bind fun r1=>((c159 (r1.1,r1.2)).bind fun r2=>(some (r2.1,r2.2)))) ((c56 x0.1 x1.1).bind fun r3=>((c144 x0.2 x1.2).bind fun r4=>((c160 (r3.1,r3.2) (false,r4)).bind fun r5=>(some (r5.1,r5.2)))))) ((c56 x0.1 x1.1).bind fun r6=>((c144 x0.2 x1.2).bind fun r7=>((c160 (r6.1,r6.2) (false,r7)).bind fun r8=>(some (r8.1,r8.2)))))
theorem e156 (s:ask156.T):evFn E0 (orcOf (fes156 c56 c144 c159 c160)) an156 (loOf (les156)) 31 cd156 Tryz.f156.results.toList rm156 (ask156.mk' s) (decW rsk156 dec156)=B156 c56 c144 c159 c160 s.1.1 s.1.2.1:=by kernel_rfl
end
noncomputable def an226:Ann:=⟨[],[],[]⟩
noncomputable def cd226:Code:=(Tryz.f226.body).getD .skip
noncomputable def rm226:List RM:=[.d (.it .i64)]
noncomputable def les226:List (LoE R226):=[]
noncomputable def fes226 (c218:ByteArray→ByteArray→Option R218):List FE:=[(fe218 c218)]
section
variable (c218:ByteArray→ByteArray→Option R218)
noncomputable def B226 (x0:TI) (x1:TI):Option R226:=cnd ((!(x0.1==x1.1))) (cnd (x0.1) (some (-1)) (some 1)) (cnd (x0.1) ((c218 x1.2 x0.2).bind fun r1=>(some r1)) ((c218 x0.2 x1.2).bind fun r2=>(some r2)))
theorem e226 (s:ask226.T):evFn E0 (orcOf (fes226 c218)) an226 (loOf (les226)) 24 cd226 Tryz.f226.results.toList rm226 (ask226.mk' s) (decW rsk226 dec226)=B226 c218 s.1.1 s.1.2.1:=by kernel_rfl
end
noncomputable def an166:Ann:=⟨[],[],[]⟩
noncomputable def cd166:Code:=(Tryz.f166.body).getD .skip
noncomputable def rm166:List RM:=[.d (.it .i64)]
noncomputable def les166:List (LoE R166):=[]
noncomputable def fes166 (c143:Bool→ByteArray→Option R143) (c144:ByteArray→ByteArray→Option R144) (c226:TI→TI→Option R226):List FE:=[(fe143 c143),(fe144 c144),(fe226 c226)]
section
variable (c143:Bool→ByteArray→Option R143) (c144:ByteArray→ByteArray→Option R144) (c226:TI→TI→Option R226)
noncomputable def B166 (x0:TQ) (x1:TQ):Option R166:=cnd ((eqS x0.2 x1.2)) ((c226 x0.1 x1.1).bind fun r1=>(some r1)) ((c144 x0.1.2 x1.2).bind fun r2=>((c143 x0.1.1 r2).bind fun r3=>((c144 x1.1.2 x0.2).bind fun r4=>((c143 x1.1.1 r4).bind fun r5=>((c226 (r3.1,r3.2) (r5.1,r5.2)).bind fun r6=>(some r6))))))
theorem e166 (s:ask166.T):evFn E0 (orcOf (fes166 c143 c144 c226)) an166 (loOf (les166)) 36 cd166 Tryz.f166.results.toList rm166 (ask166.mk' s) (decW rsk166 dec166)=B166 c143 c144 c226 s.1.1 s.1.2.1:=by kernel_rfl
end
noncomputable def an80:Ann:=⟨[],[],[]⟩
noncomputable def cd80:Code:=(Tryz.f80.body).getD .skip
noncomputable def rm80:List RM:=[.d (.it .i64)]
noncomputable def les80:List (LoE R80):=[]
noncomputable def fes80 (c71:TQ→Option R71) (c156:TQ→TQ→Option R156) (c166:TQ→TQ→Option R166):List FE:=[(fe71 c71),(fe156 c156),(fe166 c166)]
section
variable (c71:TQ→Option R71) (c156:TQ→TQ→Option R156) (c166:TQ→TQ→Option R166)
noncomputable def B80 (x0:TQ) (x1:TQ) (x2:TQ):Option R80:=(c71 x0).bind fun r1=>((c71 x1).bind fun r2=>(if r1=0 then(some r2)else(if r1=r2 then(some r2)else((c156 x0 x0).bind fun r3=>((c156 x1 x1).bind fun r4=>((c156 (r4.1,r4.2) x2).bind fun r5=>((c166 (r3.1,r3.2) (r5.1,r5.2)).bind fun r6=>(if r6>0 then(some r1)else(some r2)))))))))
theorem e80 (s:ask80.T):evFn E0 (orcOf (fes80 c71 c156 c166)) an80 (loOf (les80)) 33 cd80 Tryz.f80.results.toList rm80 (ask80.mk' s) (decW rsk80 dec80)=B80 c71 c156 c166 s.1.1 s.1.2.1 s.1.2.2.1:=by kernel_rfl
end
noncomputable def an154:Ann:=⟨[],[],[]⟩
noncomputable def cd154:Code:=(Tryz.f154.body).getD .skip
noncomputable def rm154:List RM:=[.d .bo]
noncomputable def les154:List (LoE R154):=[]
noncomputable def fes154 (c80:TQ→TQ→TQ→Option R80):List FE:=[(fe80 c80)]
section
variable (c80:TQ→TQ→TQ→Option R80)
noncomputable def B154 (x0:TQ) (x1:TQ) (x2:TQ):Option R154:=(c80 x0 x1 x2).bind fun r1=>(some (decide (r1<0)))
theorem e154 (s:ask154.T):evFn E0 (orcOf (fes154 c80)) an154 (loOf (les154)) 12 cd154 Tryz.f154.results.toList rm154 (ask154.mk' s) (decW rsk154 dec154)=B154 c80 s.1.1 s.1.2.1 s.1.2.2.1:=by kernel_rfl
end
noncomputable def an63:Ann:=⟨[(2,[(3, .any),(4, .any),(5, .any),(6, .any),(17, .any),(18, .any),(19, .any)]),(9,[(4, .any),(5, .any),(6, .any),(29, .any),(30, .any),(31, .any)])],[],[]⟩
noncomputable def cd63:Code:=(Tryz.f63.body).getD .skip
noncomputable def p63:List Pos:=posns an63 [] cd63
noncomputable def rm63:List RM:=[.d (.it .i64)]
noncomputable def rk63 (s0:SbT ask63.bl):KX R63:=retK E0 Tryz.f63.results.toList rm63 (mkB ask63.bl s0) (decW rsk63 dec63)
noncomputable def k63l0:Sk:=⟨[(3, .d (.li (.ag (.pr .fu (.it .i64))))),(4, .f (.a (.ptr 4 0 []))),(5, .f (.a (.ptr 5 0 []))),(6, .f (.a (.ptr 6 0 []))),(17, .f (.a (.ref 17))),(18, .d (.it .i64)),(19, .d (.it .i64))],[(4, .cell (.ag (.pr (.ag (.pr .bo .st)) .st)) true),(5, .cell (.ag (.pr (.ag (.pr .bo .st)) .st)) true),(6, .cell (.ag (.pr (.ag (.pr .bo .st)) .st)) true),(17, .own (.ag (.pr (.ag (.pr .bo .st)) .st)) true)]⟩
noncomputable def k63l1:Sk:=⟨[(4, .f (.a (.ptr 4 0 []))),(5, .f (.a (.ptr 5 0 []))),(6, .f (.a (.ptr 6 0 []))),(29, .d (.li (.ag (.pr .fu (.it .i64))))),(30, .d (.it .i64)),(31, .d (.it .i64))],[(4, .cell (.ag (.pr (.ag (.pr .bo .st)) .st)) true),(5, .cell (.ag (.pr (.ag (.pr .bo .st)) .st)) true),(6, .cell (.ag (.pr (.ag (.pr .bo .st)) .st)) true)]⟩
noncomputable def les63 (gl0:(List (Int×Int))→Int→Int→TQ→TQ→TQ→(List TQ)→Option R63) (gl1:(List (Int×Int))→Int→Int→TQ→TQ→TQ→Option R63):List (LoE R63):=[⟨2,k63l0,fun s=>gl0 s.1.1 s.1.2.1 s.1.2.2.1 s.2.1 s.2.2.1 s.2.2.2.1 s.2.2.2.2.1⟩,⟨9,k63l1,fun s=>gl1 s.1.1 s.1.2.1 s.1.2.2.1 s.2.1 s.2.2.1 s.2.2.2.1⟩]
noncomputable def fes63 (c150:TQ→Option R150) (c151:TQ→TQ→TQ→Option R151) (c152:TQ→TQ→TQ→Option R152) (c153:TQ→TQ→TQ→Option R153) (c154:TQ→TQ→TQ→Option R154):List FE:=[(fe150 c150),(fe151 c151),(fe152 c152),(fe153 c153),(fe154 c154)]
section
variable (gl0:(List (Int×Int))→Int→Int→TQ→TQ→TQ→(List TQ)→Option R63) (gl1:(List (Int×Int))→Int→Int→TQ→TQ→TQ→Option R63) (c150:TQ→Option R150) (c151:TQ→TQ→TQ→Option R151) (c152:TQ→TQ→TQ→Option R152) (c153:TQ→TQ→TQ→Option R153) (c154:TQ→TQ→TQ→Option R154)
noncomputable def B63l0 (x3:(List (Int×Int))) (x18:Int) (x19:Int) (x4:TQ) (x5:TQ) (x6:TQ) (x17:(List TQ)):Option R63:=if x19<x18 then(if 0≤x19 then(if x19<(x17.length:Int)then((c150 (rdOf ((false,(⟨#[]⟩:ByteArray)),(⟨#[]⟩:ByteArray)) x17 x19)).bind fun r1=>(if r1≠0 then(some r1)else(gl0 x3 x18 (wrap64 (x19+1)) x4 x5 x6 x17)))else(none))else(none))else(gl1 x3 (x3.length:Int) 0 x4 x5 x6)
theorem e63l0 (s0:SbT ask63.bl) (s:k63l0.T):evPos E0 (orcOf (fes63 c150 c151 c152 c153 c154)) 44 an63 (loOf (les63 gl0 gl1)) (rk63 s0) (p63.getD 0 ⟨0,[], .skip⟩) (k63l0.mk' s)=B63l0 gl0 gl1 c150 s.1.1 s.1.2.1 s.1.2.2.1 s.2.1 s.2.2.1 s.2.2.2.1 s.2.2.2.2.1:=by kernel_rfl
noncomputable def B63l1 (x29:(List (Int×Int))) (x30:Int) (x31:Int) (x4:TQ) (x5:TQ) (x6:TQ):Option R63:=if x31<x30 then(if 0≤x31 then(if x31<(x29.length:Int)then(if(rdOf ((-1),0) x29 x31).1=151 then((c151 x4 x5 x6).bind fun r1=>(cnd (r1) (some ((rdOf ((-1),0) x29 x31).2)) (gl1 x29 x30 (wrap64 (x31+1)) x4 x5 x6)))else(if(rdOf ((-1),0) x29 x31).1=152 then((c152 x4 x5 x6).bind fun r2=>(cnd (r2) (some ((rdOf ((-1),0) x29 x31).2)) (gl1 x29 x30 (wrap64 (x31+1)) x4 x5 x6)))else(if(rdOf ((-1),0) x29 x31).1=153 then((c153 x4 x5 x6).bind fun r3=>(cnd (r3) (some ((rdOf ((-1),0) x29 x31).2)) (gl1 x29 x30 (wrap64 (x31+1)) x4 x5 x6)))else(if(rdOf ((-1),0) x29 x31).1=154 then((c154 x4 x5 x6).bind fun r4=>(cnd (r4) (some ((rdOf ((-1),0) x29 x31).2)) (gl1 x29 x30 (wrap64 (x31+1)) x4 x5 x6)))else(none)))))else(none))else(none))else(some 0)
theorem e63l1 (s0:SbT ask63.bl) (s:k63l1.T):evPos E0 (orcOf (fes63 c150 c151 c152 c153 c154)) 44 an63 (loOf (les63 gl0 gl1)) (rk63 s0) (p63.getD 1 ⟨0,[], .skip⟩) (k63l1.mk' s)=B63l1 gl1 c151 c152 c153 c154 s.1.1 s.1.2.1 s.1.2.2.1 s.2.1 s.2.2.1 s.2.2.2.1:=by kernel_rfl
noncomputable def B63 (x0:TQ) (x1:TQ) (x2:TQ) (x3:(List (Int×Int))):Option R63:=gl0 x3 3 0 x0 x1 x2 ([x0,x1,x2]:List TQ)
theorem e63 (s:ask63.T):evFn E0 (orcOf (fes63 c150 c151 c152 c153 c154)) an63 (loOf (les63 gl0 gl1)) 44 cd63 Tryz.f63.results.toList rm63 (ask63.mk' s) (decW rsk63 dec63)=B63 gl0 s.1.1 s.1.2.1 s.1.2.2.1 s.1.2.2.2.1:=by kernel_rfl
end
noncomputable def an64:Ann:=⟨[],[],[]⟩
noncomputable def cd64:Code:=(Tryz.f64.body).getD .skip
noncomputable def rm64:List RM:=[.d (.ag (.pr .fu (.it .i64)))]
noncomputable def les64:List (LoE R64):=[]
noncomputable def fes64:List FE:=[]
noncomputable def B64:Option R64:=some (151,3)
theorem e64 (s:ask64.T):evFn E0 (orcOf (fes64)) an64 (loOf (les64)) 2 cd64 Tryz.f64.results.toList rm64 (ask64.mk' s) (decW rsk64 dec64)=B64:=by kernel_rfl
noncomputable def an65:Ann:=⟨[],[],[]⟩
noncomputable def cd65:Code:=(Tryz.f65.body).getD .skip
noncomputable def rm65:List RM:=[.d (.ag (.pr .fu (.it .i64)))]
noncomputable def les65:List (LoE R65):=[]
noncomputable def fes65:List FE:=[]
noncomputable def B65:Option R65:=some (152,26)
theorem e65 (s:ask65.T):evFn E0 (orcOf (fes65)) an65 (loOf (les65)) 2 cd65 Tryz.f65.results.toList rm65 (ask65.mk' s) (decW rsk65 dec65)=B65:=by kernel_rfl
noncomputable def an66:Ann:=⟨[],[],[]⟩
noncomputable def cd66:Code:=(Tryz.f66.body).getD .skip
noncomputable def rm66:List RM:=[.d (.ag (.pr .fu (.it .i64)))]
noncomputable def les66:List (LoE R66):=[]
noncomputable def fes66:List FE:=[]
noncomputable def B66:Option R66:=some (153,6)
theorem e66 (s:ask66.T):evFn E0 (orcOf (fes66)) an66 (loOf (les66)) 2 cd66 Tryz.f66.results.toList rm66 (ask66.mk' s) (decW rsk66 dec66)=B66:=by kernel_rfl
noncomputable def an67:Ann:=⟨[],[],[]⟩
noncomputable def cd67:Code:=(Tryz.f67.body).getD .skip
noncomputable def rm67:List RM:=[.d (.ag (.pr .fu (.it .i64)))]
noncomputable def les67:List (LoE R67):=[]
noncomputable def fes67:List FE:=[]
noncomputable def B67:Option R67:=some (154,3)
theorem e67 (s:ask67.T):evFn E0 (orcOf (fes67)) an67 (loOf (les67)) 2 cd67 Tryz.f67.results.toList rm67 (ask67.mk' s) (decW rsk67 dec67)=B67:=by kernel_rfl
noncomputable def an68:Ann:=⟨[],[],[]⟩
noncomputable def cd68:Code:=(Tryz.f68.body).getD .skip
noncomputable def rm68:List RM:=[.d (.ag (.pr (.ag (.pr .bo .st)) .st)), .d (.ag (.pr (.ag (.pr .bo .st)) .st)), .d (.it .i64)]
noncomputable def les68:List (LoE R68):=[]
noncomputable def fes68:List FE:=[]
noncomputable def B68 (x0:Int):Option R68:=some ((false,(⟨#[]⟩:ByteArray)),(⟨#[]⟩:ByteArray),(false,(⟨#[]⟩:ByteArray)),(⟨#[]⟩:ByteArray),x0)
theorem e68 (s:ask68.T):evFn E0 (orcOf (fes68)) an68 (loOf (les68)) 8 cd68 Tryz.f68.results.toList rm68 (ask68.mk' s) (decW rsk68 dec68)=B68 s.1.1:=by kernel_rfl
noncomputable def an187:Ann:=⟨[(4,[(5, .any),(6, .any),(7, .any),(15, .any),(16, .any)])],[],[]⟩
noncomputable def cd187:Code:=(Tryz.f187.body).getD .skip
noncomputable def p187:List Pos:=posns an187 [] cd187
noncomputable def rm187:List RM:=[.d .st]
noncomputable def rk187 (s0:SbT ask187.bl):KX R187:=retK E0 Tryz.f187.results.toList rm187 (mkB ask187.bl s0) (decW rsk187 dec187)
noncomputable def k187l0:Sk:=⟨[(5, .f (.a (.ref 5))),(6, .f (.a (.ref 6))),(7, .d (.it .u64)),(15, .d (.it .i64)),(16, .d (.it .i64))],[(5, .own (.it .u64) true),(6, .own (.it .u64) true)]⟩
noncomputable def les187 (gl0:Int→Int→Int→(List Int)→(List Int)→Option R187):List (LoE R187):=[⟨4,k187l0,fun s=>gl0 s.1.1 s.1.2.1 s.1.2.2.1 s.2.1 s.2.2.1⟩]
noncomputable def fes187 (c192:(List Int)→Option R192) (c220:ByteArray→Option R220) (c232:Int→Int→Int→Option R232):List FE:=[(fe192 c192),(fe220 c220),(fe232 c232)]
section
variable (gl0:Int→Int→Int→(List Int)→(List Int)→Option R187) (c192:(List Int)→Option R192) (c220:ByteArray→Option R220) (c232:Int→Int→Int→Option R232)
noncomputable def B187l0 (x7:Int) (x15:Int) (x16:Int) (x5:(List Int)) (x6:(List Int)):Option R187:=if x16<x15 then(if x16<(x6.length:Int)then(if 0≤x16 then(if x16<(x6.length:Int)then(if 0≤x16 then(if x16<(x5.length:Int)then((c232 (rd x5 x16) (rd x6 x16) x7).bind fun r1=>(if 0≤x16 then(if x16<(x5.length:Int)then(gl0 r1.2 x15 (wrap64 (x16+1)) (x5.set (x16:Int).toNat r1.1) x6)else(none))else(none)))else(none))else(none))else(none))else(none))else(if 0≤x16 then(if x16<(x5.length:Int)then((c232 (rd x5 x16) 0 x7).bind fun r2=>(if 0≤x16 then(if x16<(x5.length:Int)then(gl0 r2.2 x15 (wrap64 (x16+1)) (x5.set (x16:Int).toNat r2.1) x6)else(none))else(none)))else(none))else(none)))else((c192 x5).bind fun r3=>(some r3))
theorem e187l0 (s0:SbT ask187.bl) (s:k187l0.T):evPos E0 (orcOf (fes187 c192 c220 c232)) 43 an187 (loOf (les187 gl0)) (rk187 s0) (p187.getD 0 ⟨0,[], .skip⟩) (k187l0.mk' s)=B187l0 gl0 c192 c232 s.1.1 s.1.2.1 s.1.2.2.1 s.2.1 s.2.2.1:=by kernel_rfl
noncomputable def B187 (x0:ByteArray) (x1:ByteArray):Option R187:=(c220 x0).bind fun r1=>((c220 x1).bind fun r2=>(gl0 0 (r1.length:Int) 0 r1 r2))
theorem e187 (s:ask187.T):evFn E0 (orcOf (fes187 c192 c220 c232)) an187 (loOf (les187 gl0)) 43 cd187 Tryz.f187.results.toList rm187 (ask187.mk' s) (decW rsk187 dec187)=B187 gl0 c220 s.1.1 s.1.2.1:=by kernel_rfl
end
noncomputable def an141:Ann:=⟨[],[],[]⟩
noncomputable def cd141:Code:=(Tryz.f141.body).getD .skip
noncomputable def rm141:List RM:=[.d (.ag (.pr .bo .st))]
noncomputable def les141:List (LoE R141):=[]
noncomputable def fes141 (c143:Bool→ByteArray→Option R143) (c187:ByteArray→ByteArray→Option R187) (c217:ByteArray→ByteArray→Option R217) (c218:ByteArray→ByteArray→Option R218):List FE:=[(fe143 c143),(fe187 c187),(fe217 c217),(fe218 c218)]
section
variable (c143:Bool→ByteArray→Option R143) (c187:ByteArray→ByteArray→Option R187) (c217:ByteArray→ByteArray→Option R217) (c218:ByteArray→ByteArray→Option R218)
noncomputable def B141 (x0:TI) (x1:TI):Option R141:=cnd ((x0.1==x1.1)) ((c217 x0.2 x1.2).bind fun r1=>((c143 x0.1 r1).bind fun r2=>(some (r2.1,r2.2)))) ((c218 x0.2 x1.2).bind fun r3=>(if r3<0 then((c187 x1.2 x0.2).bind fun r4=>((c143 x1.1 r4).bind fun r5=>(some (r5.1,r5.2))))else((c187 x0.2 x1.2).bind fun r6=>((c143 x0.1 r6).bind fun r7=>(some (r7.1,r7.2))))))
theorem e141 (s:ask141.T):evFn E0 (orcOf (fes141 c143 c187 c217 c218)) an141 (loOf (les141)) 42 cd141 Tryz.f141.results.toList rm141 (ask141.mk' s) (decW rsk141 dec141)=B141 c143 c187 c217 c218 s.1.1 s.1.2.1:=by kernel_rfl
end
noncomputable def an74:Ann:=⟨[],[],[]⟩
noncomputable def cd74:Code:=(Tryz.f74.body).getD .skip
noncomputable def rm74:List RM:=[.d (.ag (.pr (.ag (.pr .bo .st)) .st))]
noncomputable def les74:List (LoE R74):=[]
noncomputable def fes74 (c141:TI→TI→Option R141) (c143:Bool→ByteArray→Option R143) (c144:ByteArray→ByteArray→Option R144) (c159:TI→Option R159) (c160:TI→TI→Option R160):List FE:=[(fe141 c141),(fe143 c143),(fe144 c144),(fe159 c159),(fe160 c160)]
section
variable (c141:TI→TI→Option R141) (c143:Bool→ByteArray→Option R143) (c144:ByteArray→ByteArray→Option R144) (c159:TI→Option R159) (c160:TI→TI→Option R160)
noncomputable def B74 (x0:TQ) (x1:TQ):Option R74:=cnd ((eqS x0.2 x1.2)) (cnd ((eqS x0.2 (⟨#[1]⟩:ByteArray))) ((c141 x0.1 x1.1).bind fun r1=>((c159 (r1.1,r1.2)).bind fun r2=>(some (r2.1,r2.2)))) ((c141 x0.1 x1.1).bind fun r3=>((c160 (r3.1,r3.2) (false,x0.2)).bind fun r4=>(some (r4.1,r4.2))))) ((c144 x0.1.2 x1.2).bind fun r5=>((c143 x0.1.1 r5).bind fun r6=>((c144 x1.1.2 x0.2).bind fun r7=>((c143 x1.1.1 r7).bind fun r8=>((c141 (r6.1,r6.2) (r8.1,r8.2)).bind fun r9=>((c144 x0.2 x1.2).bind fun r10=>((c160 (r9.1,r9.2) (false,r10)).bind fun r11=>(some (r11.1,r11.2)))))))))
theorem e74 (s:ask74.T):evFn E0 (orcOf (fes74 c141 c143 c144 c159 c160)) an74 (loOf (les74)) 58 cd74 Tryz.f74.results.toList rm74 (ask74.mk' s) (decW rsk74 dec74)=B74 c141 c143 c144 c159 c160 s.1.1 s.1.2.1:=by kernel_rfl
end
noncomputable def an142:Ann:=⟨[],[],[]⟩
noncomputable def cd142:Code:=(Tryz.f142.body).getD .skip
noncomputable def rm142:List RM:=[.d (.ag (.pr .bo .st))]
noncomputable def les142:List (LoE R142):=[]
noncomputable def fes142 (c143:Bool→ByteArray→Option R143):List FE:=[(fe143 c143)]
section
variable (c143:Bool→ByteArray→Option R143)
noncomputable def B142 (x0:TI):Option R142:=(c143 (!x0.1) x0.2).bind fun r1=>(some (r1.1,r1.2))
theorem e142 (s:ask142.T):evFn E0 (orcOf (fes142 c143)) an142 (loOf (les142)) 9 cd142 Tryz.f142.results.toList rm142 (ask142.mk' s) (decW rsk142 dec142)=B142 c143 s.1.1:=by kernel_rfl
end
noncomputable def an81:Ann:=⟨[],[],[]⟩
noncomputable def cd81:Code:=(Tryz.f81.body).getD .skip
noncomputable def rm81:List RM:=[.d (.ag (.pr (.ag (.pr .bo .st)) .st))]
noncomputable def les81:List (LoE R81):=[]
noncomputable def fes81 (c142:TI→Option R142):List FE:=[(fe142 c142)]
section
variable (c142:TI→Option R142)
noncomputable def B81 (x0:TQ):Option R81:=(c142 x0.1).bind fun r1=>(some ((r1.1,r1.2),x0.2))
theorem e81 (s:ask81.T):evFn E0 (orcOf (fes81 c142)) an81 (loOf (les81)) 9 cd81 Tryz.f81.results.toList rm81 (ask81.mk' s) (decW rsk81 dec81)=B81 c142 s.1.1:=by kernel_rfl
end
noncomputable def an75:Ann:=⟨[],[],[]⟩
noncomputable def cd75:Code:=(Tryz.f75.body).getD .skip
noncomputable def rm75:List RM:=[.d (.ag (.pr (.ag (.pr .bo .st)) .st))]
noncomputable def les75:List (LoE R75):=[]
noncomputable def fes75 (c74:TQ→TQ→Option R74) (c81:TQ→Option R81):List FE:=[(fe74 c74),(fe81 c81)]
section
variable (c74:TQ→TQ→Option R74) (c81:TQ→Option R81)
noncomputable def B75 (x0:TQ) (x1:TQ):Option R75:=(c81 x1).bind fun r1=>((c74 x0 (r1.1,r1.2)).bind fun r2=>(some (r2.1,r2.2)))
theorem e75 (s:ask75.T):evFn E0 (orcOf (fes75 c74 c81)) an75 (loOf (les75)) 9 cd75 Tryz.f75.results.toList rm75 (ask75.mk' s) (decW rsk75 dec75)=B75 c74 c81 s.1.1 s.1.2.1:=by kernel_rfl
end
noncomputable def an70:Ann:=⟨[],[],[]⟩
noncomputable def cd70:Code:=(Tryz.f70.body).getD .skip
noncomputable def rm70:List RM:=[.d (.ag (.pr (.ag (.pr .bo .st)) .st))]
noncomputable def les70:List (LoE R70):=[]
noncomputable def fes70 (c75:TQ→TQ→Option R75) (c156:TQ→TQ→Option R156):List FE:=[(fe75 c75),(fe156 c156)]
section
variable (c75:TQ→TQ→Option R75) (c156:TQ→TQ→Option R156)
noncomputable def B70 (x0:TQ) (x1:TQ) (x2:TQ):Option R70:=(c156 x0 x0).bind fun r1=>((c156 x1 x1).bind fun r2=>((c156 (r2.1,r2.2) x2).bind fun r3=>((c75 (r1.1,r1.2) (r3.1,r3.2)).bind fun r4=>(some (r4.1,r4.2)))))
theorem e70 (s:ask70.T):evFn E0 (orcOf (fes70 c75 c156)) an70 (loOf (les70)) 16 cd70 Tryz.f70.results.toList rm70 (ask70.mk' s) (decW rsk70 dec70)=B70 c75 c156 s.1.1 s.1.2.1 s.1.2.2.1:=by kernel_rfl
end
noncomputable def an158:Ann:=⟨[],[],[]⟩
noncomputable def cd158:Code:=(Tryz.f158.body).getD .skip
noncomputable def rm158:List RM:=[.d .bo]
noncomputable def les158:List (LoE R158):=[]
noncomputable def fes158:List FE:=[]
noncomputable def B158 (x0:TQ):Option R158:=if(x0.1.2.size:Int)>1024 then(some true)else(some (decide ((x0.2.size:Int)>1024)))
theorem e158 (s:ask158.T):evFn E0 (orcOf (fes158)) an158 (loOf (les158)) 14 cd158 Tryz.f158.results.toList rm158 (ask158.mk' s) (decW rsk158 dec158)=B158 s.1.1:=by kernel_rfl
noncomputable def an72:Ann:=⟨[],[],[]⟩
noncomputable def cd72:Code:=(Tryz.f72.body).getD .skip
noncomputable def rm72:List RM:=[.d (.ag (.pr (.ag (.pr .bo .st)) .st)), .d (.ag (.pr (.ag (.pr .bo .st)) .st)), .d (.it .i64)]
noncomputable def les72:List (LoE R72):=[]
noncomputable def fes72 (c158:TQ→Option R158):List FE:=[(fe158 c158)]
section
variable (c158:TQ→Option R158)
noncomputable def B72 (x0:TQ) (x1:TQ):Option R72:=(c158 x0).bind fun r1=>(cnd (r1) (some ((false,(⟨#[]⟩:ByteArray)),(⟨#[]⟩:ByteArray),(false,(⟨#[]⟩:ByteArray)),(⟨#[]⟩:ByteArray),4)) ((c158 x1).bind fun r2=>(cnd (r2) (some ((false,(⟨#[]⟩:ByteArray)),(⟨#[]⟩:ByteArray),(false,(⟨#[]⟩:ByteArray)),(⟨#[]⟩:ByteArray),4)) (some (x0.1,x0.2,x1.1,x1.2,0)))))
theorem e72 (s:ask72.T):evFn E0 (orcOf (fes72 c158)) an72 (loOf (les72)) 17 cd72 Tryz.f72.results.toList rm72 (ask72.mk' s) (decW rsk72 dec72)=B72 c158 s.1.1 s.1.2.1:=by kernel_rfl
end
noncomputable def an165:Ann:=⟨[],[],[]⟩
noncomputable def cd165:Code:=(Tryz.f165.body).getD .skip
noncomputable def rm165:List RM:=[.d (.ag (.pr (.ag (.pr .bo .st)) .st))]
noncomputable def les165:List (LoE R165):=[]
noncomputable def fes165:List FE:=[]
noncomputable def B165 (x0:TQ):Option R165:=some ((x0.1.1,x0.2),x0.1.2)
theorem e165 (s:ask165.T):evFn E0 (orcOf (fes165)) an165 (loOf (les165)) 13 cd165 Tryz.f165.results.toList rm165 (ask165.mk' s) (decW rsk165 dec165)=B165 s.1.1:=by kernel_rfl
noncomputable def an79:Ann:=⟨[],[],[]⟩
noncomputable def cd79:Code:=(Tryz.f79.body).getD .skip
noncomputable def rm79:List RM:=[.d (.ag (.pr (.ag (.pr .bo .st)) .st))]
noncomputable def les79:List (LoE R79):=[]
noncomputable def fes79 (c156:TQ→TQ→Option R156) (c165:TQ→Option R165):List FE:=[(fe156 c156),(fe165 c165)]
section
variable (c156:TQ→TQ→Option R156) (c165:TQ→Option R165)
noncomputable def B79 (x0:TQ) (x1:TQ):Option R79:=(c165 x1).bind fun r1=>((c156 x0 (r1.1,r1.2)).bind fun r2=>(some (r2.1,r2.2)))
theorem e79 (s:ask79.T):evFn E0 (orcOf (fes79 c156 c165)) an79 (loOf (les79)) 9 cd79 Tryz.f79.results.toList rm79 (ask79.mk' s) (decW rsk79 dec79)=B79 c156 c165 s.1.1 s.1.2.1:=by kernel_rfl
end
noncomputable def an73:Ann:=⟨[],[],[]⟩
noncomputable def cd73:Code:=(Tryz.f73.body).getD .skip
noncomputable def rm73:List RM:=[.d (.ag (.pr (.ag (.pr .bo .st)) .st))]
noncomputable def les73:List (LoE R73):=[]
noncomputable def fes73 (c79:TQ→TQ→Option R79) (c122:Int→Option R122):List FE:=[(fe79 c79),(fe122 c122)]
section
variable (c79:TQ→TQ→Option R79) (c122:Int→Option R122)
noncomputable def B73 (x0:TQ):Option R73:=(c122 2).bind fun r1=>((c79 x0 (r1.1,r1.2)).bind fun r2=>(some (r2.1,r2.2)))
theorem e73 (s:ask73.T):evFn E0 (orcOf (fes73 c79 c122)) an73 (loOf (les73)) 6 cd73 Tryz.f73.results.toList rm73 (ask73.mk' s) (decW rsk73 dec73)=B73 c79 c122 s.1.1:=by kernel_rfl
end
noncomputable def an15:Ann:=⟨[],[],[]⟩
noncomputable def cd15:Code:=(Tryz.f15.body).getD .skip
noncomputable def rm15:List RM:=[.d (.ag (.pr (.ag (.pr .bo .st)) .st)), .d (.ag (.pr (.ag (.pr .bo .st)) .st)), .d (.it .i64)]
noncomputable def les15:List (LoE R15):=[]
noncomputable def fes15 (c63:TQ→TQ→TQ→(List (Int×Int))→Option R63) (c64:Option R64) (c65:Option R65) (c66:Option R66) (c67:Option R67) (c68:Int→Option R68) (c69:TQ→Option R69) (c70:TQ→TQ→TQ→Option R70) (c71:TQ→Option R71) (c72:TQ→TQ→Option R72) (c73:TQ→Option R73) (c74:TQ→TQ→Option R74) (c75:TQ→TQ→Option R75):List FE:=[(fe63 c63),(fe64 c64),(fe65 c65),(fe66 c66),(fe67 c67),(fe68 c68),(fe69 c69),(fe70 c70),(fe71 c71),(fe72 c72),(fe73 c73),(fe74 c74),(fe75 c75)]
section
variable (c63:TQ→TQ→TQ→(List (Int×Int))→Option R63) (c64:Option R64) (c65:Option R65) (c66:Option R66) (c67:Option R67) (c68:Int→Option R68) (c69:TQ→Option R69) (c70:TQ→TQ→TQ→Option R70) (c71:TQ→Option R71) (c72:TQ→TQ→Option R72) (c73:TQ→Option R73) (c74:TQ→TQ→Option R74) (c75:TQ→TQ→Option R75)
noncomputable def B15 (x0:TQ) (x1:TQ) (x2:TQ):Option R15:=(c64).bind fun r1=>((c65).bind fun r2=>((c66).bind fun r3=>((c67).bind fun r4=>((c63 x0 x1 x2 ([(r1.1,r1.2),(r2.1,r2.2),(r3.1,r3.2),(r4.1,r4.2)]:List (Int×Int))).bind fun r5=>(if r5≠0 then((c68 r5).bind fun r6=>(some (r6.1,r6.2.1,r6.2.2.1,r6.2.2.2.1,r6.2.2.2.2)))else((c70 x0 x1 x2).bind fun r7=>((c69 (r7.1,r7.2)).bind fun r8=>(cnd ((!r8.2.2)) ((c68 10).bind fun r9=>(some (r9.1,r9.2.1,r9.2.2.1,r9.2.2.2.1,r9.2.2.2.2))) ((c71 x0).bind fun r10=>(if r10≤0 then((c68 10).bind fun r11=>(some (r11.1,r11.2.1,r11.2.2.1,r11.2.2.2.1,r11.2.2.2.2)))else((c74 x0 (r8.1,r8.2.1)).bind fun r12=>((c73 (r12.1,r12.2)).bind fun r13=>((c75 x0 (r8.1,r8.2.1)).bind fun r14=>((c73 (r14.1,r14.2)).bind fun r15=>((c72 (r13.1,r13.2) (r15.1,r15.2)).bind fun r16=>(some (r16.1,r16.2.1,r16.2.2.1,r16.2.2.2.1,r16.2.2.2.2)))))))))))))))))
theorem e15 (s:ask15.T):evFn E0 (orcOf (fes15 c63 c64 c65 c66 c67 c68 c69 c70 c71 c72 c73 c74 c75)) an15 (loOf (les15)) 59 cd15 Tryz.f15.results.toList rm15 (ask15.mk' s) (decW rsk15 dec15)=B15 c63 c64 c65 c66 c67 c68 c69 c70 c71 c72 c73 c74 c75 s.1.1 s.1.2.1 s.1.2.2.1:=by kernel_rfl
end
noncomputable def an161:Ann:=⟨[(5,[(5, .any),(6, .any),(7, .own (.it .u64)),(8, .any),(9, .any)])],[],[]⟩
noncomputable def cd161:Code:=(Tryz.f161.body).getD .skip
noncomputable def p161:List Pos:=posns an161 [] cd161
noncomputable def rm161:List RM:=[.d .st]
noncomputable def rk161 (s0:SbT ask161.bl):KX R161:=retK E0 Tryz.f161.results.toList rm161 (mkB ask161.bl s0) (decW rsk161 dec161)
noncomputable def k161l0:Sk:=⟨[(5, .f (.a (.ref 5))),(6, .f (.a (.ref 6))),(7, .f (.a (.ref 7))),(8, .d (.it .u64)),(9, .d (.it .i64))],[(5, .own (.it .u64) true),(6, .own (.it .u64) true),(7, .own (.it .u64) true)]⟩
noncomputable def les161 (gl0:Int→Int→(List Int)→(List Int)→(List Int)→Option R161):List (LoE R161):=[⟨5,k161l0,fun s=>gl0 s.1.1 s.1.2.1 s.2.1 s.2.2.1 s.2.2.2.1⟩]
noncomputable def fes161 (c180:(List Int)→Option R180) (c221:ByteArray→Option R221):List FE:=[(fe180 c180),(fe221 c221)]
section
variable (gl0:Int→Int→(List Int)→(List Int)→(List Int)→Option R161) (c180:(List Int)→Option R180) (c221:ByteArray→Option R221)
noncomputable def B161l0 (x8:Int) (x9:Int) (x5:(List Int)) (x6:(List Int)) (x7:(List Int)):Option R161:=if x9<(x5.length:Int)then(if x9<(x5.length:Int)then(if 0≤x9 then(if x9<(x5.length:Int)then(if x9<(x6.length:Int)then(if 0≤x9 then(if x9<(x6.length:Int)then(if(x7.length+1)*8≤140737488355328 then(if(0:Int)≤32 then(gl0 ((IntKind.u64.wrap ((IntKind.u64.wrap (x8+(rd x5 x9)))+(rd x6 x9)))/4294967296) (wrap64 (x9+1)) x5 x6 (x7++([Go.bits .and .u64 (IntKind.u64.wrap ((IntKind.u64.wrap (x8+(rd x5 x9)))+(rd x6 x9))) 4294967295]:List Int)))else(none))else(none))else(none))else(none))else(if(x7.length+1)*8≤140737488355328 then(if(0:Int)≤32 then(gl0 ((IntKind.u64.wrap (x8+(rd x5 x9)))/4294967296) (wrap64 (x9+1)) x5 x6 (x7++([Go.bits .and .u64 (IntKind.u64.wrap (x8+(rd x5 x9))) 4294967295]:List Int)))else(none))else(none)))else(none))else(none))else(if x9<(x6.length:Int)then(if 0≤x9 then(if x9<(x6.length:Int)then(if(x7.length+1)*8≤140737488355328 then(if(0:Int)≤32 then(gl0 ((IntKind.u64.wrap (x8+(rd x6 x9)))/4294967296) (wrap64 (x9+1)) x5 x6 (x7++([Go.bits .and .u64 (IntKind.u64.wrap (x8+(rd x6 x9))) 4294967295]:List Int)))else(none))else(none))else(none))else(none))else(if(x7.length+1)*8≤140737488355328 then(if(0:Int)≤32 then(gl0 (x8/4294967296) (wrap64 (x9+1)) x5 x6 (x7++([Go.bits .and .u64 x8 4294967295]:List Int)))else(none))else(none))))else(if x9<(x6.length:Int)then(if x9<(x5.length:Int)then(if 0≤x9 then(if x9<(x5.length:Int)then(if x9<(x6.length:Int)then(if 0≤x9 then(if x9<(x6.length:Int)then(if(x7.length+1)*8≤140737488355328 then(if(0:Int)≤32 then(gl0 ((IntKind.u64.wrap ((IntKind.u64.wrap (x8+(rd x5 x9)))+(rd x6 x9)))/4294967296) (wrap64 (x9+1)) x5 x6 (x7++([Go.bits .and .u64 (IntKind.u64.wrap ((IntKind.u64.wrap (x8+(rd x5 x9)))+(rd x6 x9))) 4294967295]:List Int)))else(none))else(none))else(none))else(none))else(if(x7.length+1)*8≤140737488355328 then(if(0:Int)≤32 then(gl0 ((IntKind.u64.wrap (x8+(rd x5 x9)))/4294967296) (wrap64 (x9+1)) x5 x6 (x7++([Go.bits .and .u64 (IntKind.u64.wrap (x8+(rd x5 x9))) 4294967295]:List Int)))else(none))else(none)))else(none))else(none))else(if x9<(x6.length:Int)then(if 0≤x9 then(if x9<(x6.length:Int)then(if(x7.length+1)*8≤140737488355328 then(if(0:Int)≤32 then(gl0 ((IntKind.u64.wrap (x8+(rd x6 x9)))/4294967296) (wrap64 (x9+1)) x5 x6 (x7++([Go.bits .and .u64 (IntKind.u64.wrap (x8+(rd x6 x9))) 4294967295]:List Int)))else(none))else(none))else(none))else(none))else(if(x7.length+1)*8≤140737488355328 then(if(0:Int)≤32 then(gl0 (x8/4294967296) (wrap64 (x9+1)) x5 x6 (x7++([Go.bits .and .u64 x8 4294967295]:List Int)))else(none))else(none))))else(if x8>0 then(if x9<(x5.length:Int)then(if 0≤x9 then(if x9<(x5.length:Int)then(if x9<(x6.length:Int)then(if 0≤x9 then(if x9<(x6.length:Int)then(if(x7.length+1)*8≤140737488355328 then(if(0:Int)≤32 then(gl0 ((IntKind.u64.wrap ((IntKind.u64.wrap (x8+(rd x5 x9)))+(rd x6 x9)))/4294967296) (wrap64 (x9+1)) x5 x6 (x7++([Go.bits .and .u64 (IntKind.u64.wrap ((IntKind.u64.wrap (x8+(rd x5 x9)))+(rd x6 x9))) 4294967295]:List Int)))else(none))else(none))else(none))else(none))else(if(x7.length+1)*8≤140737488355328 then(if(0:Int)≤32 then(gl0 ((IntKind.u64.wrap (x8+(rd x5 x9)))/4294967296) (wrap64 (x9+1)) x5 x6 (x7++([Go.bits .and .u64 (IntKind.u64.wrap (x8+(rd x5 x9))) 4294967295]:List Int)))else(none))else(none)))else(none))else(none))else(if x9<(x6.length:Int)then(if 0≤x9 then(if x9<(x6.length:Int)then(if(x7.length+1)*8≤140737488355328 then(if(0:Int)≤32 then(gl0 ((IntKind.u64.wrap (x8+(rd x6 x9)))/4294967296) (wrap64 (x9+1)) x5 x6 (x7++([Go.bits .and .u64 (IntKind.u64.wrap (x8+(rd x6 x9))) 4294967295]:List Int)))else(none))else(none))else(none))else(none))else(if(x7.length+1)*8≤140737488355328 then(if(0:Int)≤32 then(gl0 (x8/4294967296) (wrap64 (x9+1)) x5 x6 (x7++([Go.bits .and .u64 x8 4294967295]:List Int)))else(none))else(none))))else((c180 x7).bind fun r1=>(some r1))))
theorem e161l0 (s0:SbT ask161.bl) (s:k161l0.T):evPos E0 (orcOf (fes161 c180 c221)) 61 an161 (loOf (les161 gl0)) (rk161 s0) (p161.getD 0 ⟨0,[], .skip⟩) (k161l0.mk' s)=B161l0 gl0 c180 s.1.1 s.1.2.1 s.2.1 s.2.2.1 s.2.2.2.1:=by kernel_rfl
noncomputable def B161 (x0:ByteArray) (x1:ByteArray):Option R161:=(c221 x0).bind fun r1=>((c221 x1).bind fun r2=>(gl0 0 0 r1 r2 ([]:List Int)))
theorem e161 (s:ask161.T):evFn E0 (orcOf (fes161 c180 c221)) an161 (loOf (les161 gl0)) 61 cd161 Tryz.f161.results.toList rm161 (ask161.mk' s) (decW rsk161 dec161)=B161 gl0 c221 s.1.1 s.1.2.1:=by kernel_rfl
end
noncomputable def an162:Ann:=⟨[],[],[]⟩
noncomputable def cd162:Code:=(Tryz.f162.body).getD .skip
noncomputable def rm162:List RM:=[.d (.it .i64)]
noncomputable def les162:List (LoE R162):=[]
noncomputable def fes162:List FE:=[]
noncomputable def B162 (x0:ByteArray) (x1:ByteArray):Option R162:=if(x0.size:Int)<(x1.size:Int)then(some (-1))else(if(x0.size:Int)=(x1.size:Int)then(cnd ((Op.bytesLess x0.toList x1.toList)) (some (-1)) (cnd ((eqS x0 x1)) (some 0) (some 1)))else(cnd ((eqS x0 x1)) (some 0) (some 1)))
theorem e162 (s:ask162.T):evFn E0 (orcOf (fes162)) an162 (loOf (les162)) 27 cd162 Tryz.f162.results.toList rm162 (ask162.mk' s) (decW rsk162 dec162)=B162 s.1.1 s.1.2.1:=by kernel_rfl
noncomputable def an163:Ann:=⟨[(6,[(5, .any),(6, .any),(7, .any),(8, .any)])],[],[]⟩
noncomputable def cd163:Code:=(Tryz.f163.body).getD .skip
noncomputable def p163:List Pos:=posns an163 [] cd163
noncomputable def rm163:List RM:=[.d .st]
noncomputable def rk163 (s0:SbT ask163.bl):KX R163:=retK E0 Tryz.f163.results.toList rm163 (mkB ask163.bl s0) (decW rsk163 dec163)
noncomputable def k163l0:Sk:=⟨[(5, .f (.a (.ref 5))),(6, .f (.a (.ref 6))),(7, .d (.it .u64)),(8, .d (.it .i64))],[(5, .own (.it .u64) true),(6, .own (.it .u64) true)]⟩
noncomputable def les163 (gl0:Int→Int→(List Int)→(List Int)→Option R163):List (LoE R163):=[⟨6,k163l0,fun s=>gl0 s.1.1 s.1.2.1 s.2.1 s.2.2.1⟩]
noncomputable def fes163 (c162:ByteArray→ByteArray→Option R162) (c180:(List Int)→Option R180) (c221:ByteArray→Option R221):List FE:=[(fe162 c162),(fe180 c180),(fe221 c221)]
section
variable (gl0:Int→Int→(List Int)→(List Int)→Option R163) (c162:ByteArray→ByteArray→Option R162) (c180:(List Int)→Option R180) (c221:ByteArray→Option R221)
noncomputable def B163l0 (x7:Int) (x8:Int) (x5:(List Int)) (x6:(List Int)):Option R163:=if x8<(x5.length:Int)then(if x8<(x6.length:Int)then(if 0≤x8 then(if x8<(x6.length:Int)then(if 0≤x8 then(if x8<(x5.length:Int)then(if rd x5 x8<IntKind.u64.wrap (x7+(rd x6 x8))then(if 0≤x8 then(if x8<(x5.length:Int)then(if 0≤x8 then(if x8<(x5.length:Int)then(if 0≤x8 then(if x8<((x5.set (x8:Int).toNat (IntKind.u64.wrap ((rd x5 x8)+4294967296))).length:Int)then(if 0≤x8 then(if x8<((x5.set (x8:Int).toNat (IntKind.u64.wrap ((rd x5 x8)+4294967296))).length:Int)then(gl0 1 (wrap64 (x8+1)) ((x5.set (x8:Int).toNat (IntKind.u64.wrap ((rd x5 x8)+4294967296))).set (x8:Int).toNat (IntKind.u64.wrap ((rd (x5.set (x8:Int).toNat (IntKind.u64.wrap ((rd x5 x8)+4294967296))) x8)-(IntKind.u64.wrap (x7+(rd x6 x8)))))) x6)else(none))else(none))else(none))else(none))else(none))else(none))else(none))else(none))else(if 0≤x8 then(if x8<(x5.length:Int)then(if 0≤x8 then(if x8<(x5.length:Int)then(gl0 0 (wrap64 (x8+1)) (x5.set (x8:Int).toNat (IntKind.u64.wrap ((rd x5 x8)-(IntKind.u64.wrap (x7+(rd x6 x8)))))) x6)else(none))else(none))else(none))else(none)))else(none))else(none))else(none))else(none))else(if 0≤x8 then(if x8<(x5.length:Int)then(if rd x5 x8<x7 then(if 0≤x8 then(if x8<(x5.length:Int)then(if 0≤x8 then(if x8<(x5.length:Int)then(if 0≤x8 then(if x8<((x5.set (x8:Int).toNat (IntKind.u64.wrap ((rd x5 x8)+4294967296))).length:Int)then(if 0≤x8 then(if x8<((x5.set (x8:Int).toNat (IntKind.u64.wrap ((rd x5 x8)+4294967296))).length:Int)then(gl0 1 (wrap64 (x8+1)) ((x5.set (x8:Int).toNat (IntKind.u64.wrap ((rd x5 x8)+4294967296))).set (x8:Int).toNat (IntKind.u64.wrap ((rd (x5.set (x8:Int).toNat (IntKind.u64.wrap ((rd x5 x8)+4294967296))) x8)-x7))) x6)else(none))else(none))else(none))else(none))else(none))else(none))else(none))else(none))else(if 0≤x8 then(if x8<(x5.length:Int)then(if 0≤x8 then(if x8<(x5.length:Int)then(gl0 0 (wrap64 (x8+1)) (x5.set (x8:Int).toNat (IntKind.u64.wrap ((rd x5 x8)-x7))) x6)else(none))else(none))else(none))else(none)))else(none))else(none)))else((c180 x5).bind fun r1=>(some r1))
theorem e163l0 (s0:SbT ask163.bl) (s:k163l0.T):evPos E0 (orcOf (fes163 c162 c180 c221)) 60 an163 (loOf (les163 gl0)) (rk163 s0) (p163.getD 0 ⟨0,[], .skip⟩) (k163l0.mk' s)=B163l0 gl0 c180 s.1.1 s.1.2.1 s.2.1 s.2.2.1:=by kernel_rfl
noncomputable def B163 (x0:ByteArray) (x1:ByteArray):Option R163:=(c162 x0 x1).bind fun r1=>(if r1<0 then(some (⟨#[]⟩:ByteArray))else((c221 x0).bind fun r2=>((c221 x1).bind fun r3=>(gl0 0 0 r2 r3))))
theorem e163 (s:ask163.T):evFn E0 (orcOf (fes163 c162 c180 c221)) an163 (loOf (les163 gl0)) 60 cd163 Tryz.f163.results.toList rm163 (ask163.mk' s) (decW rsk163 dec163)=B163 gl0 c162 c221 s.1.1 s.1.2.1:=by kernel_rfl
end
noncomputable def an76:Ann:=⟨[],[],[]⟩
noncomputable def cd76:Code:=(Tryz.f76.body).getD .skip
noncomputable def rm76:List RM:=[.d (.ag (.pr .bo .st))]
noncomputable def les76:List (LoE R76):=[]
noncomputable def fes76 (c148:Bool→ByteArray→Option R148) (c161:ByteArray→ByteArray→Option R161) (c162:ByteArray→ByteArray→Option R162) (c163:ByteArray→ByteArray→Option R163):List FE:=[(fe148 c148),(fe161 c161),(fe162 c162),(fe163 c163)]
section
variable (c148:Bool→ByteArray→Option R148) (c161:ByteArray→ByteArray→Option R161) (c162:ByteArray→ByteArray→Option R162) (c163:ByteArray→ByteArray→Option R163)
noncomputable def B76 (x0:TI) (x1:TI):Option R76:=cnd ((x0.1==x1.1)) ((c161 x0.2 x1.2).bind fun r1=>((c148 x0.1 r1).bind fun r2=>(some (r2.1,r2.2)))) ((c162 x0.2 x1.2).bind fun r3=>(if r3≥0 then((c163 x0.2 x1.2).bind fun r4=>((c148 x0.1 r4).bind fun r5=>(some (r5.1,r5.2))))else((c163 x1.2 x0.2).bind fun r6=>((c148 x1.1 r6).bind fun r7=>(some (r7.1,r7.2))))))
theorem e76 (s:ask76.T):evFn E0 (orcOf (fes76 c148 c161 c162 c163)) an76 (loOf (les76)) 40 cd76 Tryz.f76.results.toList rm76 (ask76.mk' s) (decW rsk76 dec76)=B76 c148 c161 c162 c163 s.1.1 s.1.2.1:=by kernel_rfl
end
noncomputable def an16:Ann:=⟨[],[],[]⟩
noncomputable def cd16:Code:=(Tryz.f16.body).getD .skip
noncomputable def rm16:List RM:=[.d (.ag (.pr (.ag (.pr .bo .st)) .st))]
noncomputable def les16:List (LoE R16):=[]
noncomputable def fes16 (c13:TI→Option R13) (c60:TI→TI→Option R60) (c61:TI→TI→Option R61) (c62:TQ→Option R62) (c76:TI→TI→Option R76):List FE:=[(fe13 c13),(fe60 c60),(fe61 c61),(fe62 c62),(fe76 c76)]
section
variable (c13:TI→Option R13) (c60:TI→TI→Option R60) (c61:TI→TI→Option R61) (c62:TQ→Option R62) (c76:TI→TI→Option R76)
noncomputable def B16 (x0:TQ) (x1:TQ):Option R16:=cnd ((eqS x0.2 (⟨#[1]⟩:ByteArray))) (cnd ((eqS x1.2 (⟨#[1]⟩:ByteArray))) ((c76 x0.1 x1.1).bind fun r1=>((c13 (r1.1,r1.2)).bind fun r2=>(some (r2.1,r2.2)))) ((c62 x1).bind fun r3=>((c61 x0.1 (r3.1,r3.2)).bind fun r4=>((c62 x0).bind fun r5=>((c61 x1.1 (r5.1,r5.2)).bind fun r6=>((c76 (r4.1,r4.2) (r6.1,r6.2)).bind fun r7=>((c62 x0).bind fun r8=>((c62 x1).bind fun r9=>((c61 (r8.1,r8.2) (r9.1,r9.2)).bind fun r10=>((c60 (r7.1,r7.2) (r10.1,r10.2)).bind fun r11=>(some (r11.1,r11.2)))))))))))) ((c62 x1).bind fun r12=>((c61 x0.1 (r12.1,r12.2)).bind fun r13=>((c62 x0).bind fun r14=>((c61 x1.1 (r14.1,r14.2)).bind fun r15=>((c76 (r13.1,r13.2) (r15.1,r15.2)).bind fun r16=>((c62 x0).bind fun r17=>((c62 x1).bind fun r18=>((c61 (r17.1,r17.2) (r18.1,r18.2)).bind fun r19=>((c60 (r16.1,r16.2) (r19.1,r19.2)).bind fun r20=>(some (r20.1,r20.2)))))))))))
theorem e16 (s:ask16.T):evFn E0 (orcOf (fes16 c13 c60 c61 c62 c76)) an16 (loOf (les16)) 38 cd16 Tryz.f16.results.toList rm16 (ask16.mk' s) (decW rsk16 dec16)=B16 c13 c60 c61 c62 c76 s.1.1 s.1.2.1:=by kernel_rfl
end
noncomputable def an164:Ann:=⟨[],[],[]⟩
noncomputable def cd164:Code:=(Tryz.f164.body).getD .skip
noncomputable def rm164:List RM:=[.d (.ag (.pr .bo .st))]
noncomputable def les164:List (LoE R164):=[]
noncomputable def fes164 (c148:Bool→ByteArray→Option R148):List FE:=[(fe148 c148)]
section
variable (c148:Bool→ByteArray→Option R148)
noncomputable def B164 (x0:TI):Option R164:=(c148 (!x0.1) x0.2).bind fun r1=>(some (r1.1,r1.2))
theorem e164 (s:ask164.T):evFn E0 (orcOf (fes164 c148)) an164 (loOf (les164)) 9 cd164 Tryz.f164.results.toList rm164 (ask164.mk' s) (decW rsk164 dec164)=B164 c148 s.1.1:=by kernel_rfl
end
noncomputable def an77:Ann:=⟨[],[],[]⟩
noncomputable def cd77:Code:=(Tryz.f77.body).getD .skip
noncomputable def rm77:List RM:=[.d (.ag (.pr (.ag (.pr .bo .st)) .st))]
noncomputable def les77:List (LoE R77):=[]
noncomputable def fes77 (c164:TI→Option R164):List FE:=[(fe164 c164)]
section
variable (c164:TI→Option R164)
noncomputable def B77 (x0:TQ):Option R77:=(c164 x0.1).bind fun r1=>(some ((r1.1,r1.2),x0.2))
theorem e77 (s:ask77.T):evFn E0 (orcOf (fes77 c164)) an77 (loOf (les77)) 9 cd77 Tryz.f77.results.toList rm77 (ask77.mk' s) (decW rsk77 dec77)=B77 c164 s.1.1:=by kernel_rfl
end
noncomputable def an17:Ann:=⟨[],[],[]⟩
noncomputable def cd17:Code:=(Tryz.f17.body).getD .skip
noncomputable def rm17:List RM:=[.d (.ag (.pr (.ag (.pr .bo .st)) .st))]
noncomputable def les17:List (LoE R17):=[]
noncomputable def fes17 (c16:TQ→TQ→Option R16) (c77:TQ→Option R77):List FE:=[(fe16 c16),(fe77 c77)]
section
variable (c16:TQ→TQ→Option R16) (c77:TQ→Option R77)
noncomputable def B17 (x0:TQ) (x1:TQ):Option R17:=(c77 x1).bind fun r1=>((c16 x0 (r1.1,r1.2)).bind fun r2=>(some (r2.1,r2.2)))
theorem e17 (s:ask17.T):evFn E0 (orcOf (fes17 c16 c77)) an17 (loOf (les17)) 9 cd17 Tryz.f17.results.toList rm17 (ask17.mk' s) (decW rsk17 dec17)=B17 c16 c77 s.1.1 s.1.2.1:=by kernel_rfl
end
noncomputable def an18:Ann:=⟨[(8,[(4, .any),(5, .any),(6, .any),(7, .any),(55, .any),(56, .any),(57, .any)])],[],[]⟩
noncomputable def cd18:Code:=(Tryz.f18.body).getD .skip
noncomputable def p18:List Pos:=posns an18 [] cd18
noncomputable def rm18:List RM:=[.d (.ag (.pr (.ag (.pr .bo .st)) .st)), .d (.ag (.pr (.ag (.pr .bo .st)) .st)), .d (.it .i64)]
noncomputable def rk18 (s0:SbT ask18.bl):KX R18:=retK E0 Tryz.f18.results.toList rm18 (mkB ask18.bl s0) (decW rsk18 dec18)
noncomputable def k18l0:Sk:=⟨[(4, .f (.a (.ptr 4 0 []))),(5, .f (.a (.ptr 5 0 []))),(6, .f (.a (.ptr 6 0 []))),(7, .f (.a (.ptr 7 0 []))),(55, .f (.a (.ref 55))),(56, .d (.it .i64)),(57, .d (.it .i64))],[(4, .cell (.ag (.pr (.ag (.pr .bo .st)) .st)) true),(5, .cell (.ag (.pr (.ag (.pr .bo .st)) .st)) true),(6, .cell (.ag (.pr (.ag (.pr .bo .st)) .st)) true),(7, .cell (.ag (.pr (.ag (.pr .bo .st)) .st)) true),(55, .own (.ag (.pr (.ag (.pr .bo .st)) .st)) true)]⟩
noncomputable def les18 (gl0:Int→Int→TQ→TQ→TQ→TQ→(List TQ)→Option R18):List (LoE R18):=[⟨8,k18l0,fun s=>gl0 s.1.1 s.1.2.1 s.2.1 s.2.2.1 s.2.2.2.1 s.2.2.2.2.1 s.2.2.2.2.2.1⟩]
noncomputable def fes18 (c63:TQ→TQ→TQ→(List (Int×Int))→Option R63) (c64:Option R64) (c65:Option R65) (c66:Option R66) (c67:Option R67) (c68:Int→Option R68) (c69:TQ→Option R69) (c70:TQ→TQ→TQ→Option R70) (c72:TQ→TQ→Option R72) (c73:TQ→Option R73) (c74:TQ→TQ→Option R74) (c75:TQ→TQ→Option R75) (c78:TQ→Option R78) (c79:TQ→TQ→Option R79) (c80:TQ→TQ→TQ→Option R80) (c81:TQ→Option R81):List FE:=[(fe63 c63),(fe64 c64),(fe65 c65),(fe66 c66),(fe67 c67),(fe68 c68),(fe69 c69),(fe70 c70),(fe72 c72),(fe73 c73),(fe74 c74),(fe75 c75),(fe78 c78),(fe79 c79),(fe80 c80),(fe81 c81)]
section
variable (gl0:Int→Int→TQ→TQ→TQ→TQ→(List TQ)→Option R18) (c63:TQ→TQ→TQ→(List (Int×Int))→Option R63) (c64:Option R64) (c65:Option R65) (c66:Option R66) (c67:Option R67) (c68:Int→Option R68) (c69:TQ→Option R69) (c70:TQ→TQ→TQ→Option R70) (c72:TQ→TQ→Option R72) (c73:TQ→Option R73) (c74:TQ→TQ→Option R74) (c75:TQ→TQ→Option R75) (c78:TQ→Option R78) (c79:TQ→TQ→Option R79) (c80:TQ→TQ→TQ→Option R80) (c81:TQ→Option R81)
noncomputable def B18l0 (x56:Int) (x57:Int) (x4:TQ) (x5:TQ) (x6:TQ) (x7:TQ) (x55:(List TQ)):Option R18:=if x57<x56 then(if 0≤x57 then(if x57<(x55.length:Int)then((c69 (rdOf ((false,(⟨#[]⟩:ByteArray)),(⟨#[]⟩:ByteArray)) x55 x57)).bind fun r1=>(cnd ((!r1.2.2)) (gl0 x56 (wrap64 (x57+1)) x4 x5 x6 x7 x55) ((c78 (r1.1,r1.2.1)).bind fun r2=>(cnd (r2) (gl0 x56 (wrap64 (x57+1)) x4 x5 x6 x7 x55) ((c79 x4 (r1.1,r1.2.1)).bind fun r3=>((c73 (r3.1,r3.2)).bind fun r4=>((c80 (r1.1,r1.2.1) (r4.1,r4.2) x5).bind fun r5=>(if r5<0 then((c81 (r1.1,r1.2.1)).bind fun r6=>((c81 (r4.1,r4.2)).bind fun r7=>((c72 (r6.1,r6.2) (r7.1,r7.2)).bind fun r8=>(some (r8.1,r8.2.1,r8.2.2.1,r8.2.2.2.1,r8.2.2.2.2)))))else((c72 (r1.1,r1.2.1) (r4.1,r4.2)).bind fun r9=>(some (r9.1,r9.2.1,r9.2.2.1,r9.2.2.2.1,r9.2.2.2.2)))))))))))else(none))else(none))else((c68 10).bind fun r10=>(some (r10.1,r10.2.1,r10.2.2.1,r10.2.2.2.1,r10.2.2.2.2)))
theorem e18l0 (s0:SbT ask18.bl) (s:k18l0.T):evPos E0 (orcOf (fes18 c63 c64 c65 c66 c67 c68 c69 c70 c72 c73 c74 c75 c78 c79 c80 c81)) 96 an18 (loOf (les18 gl0)) (rk18 s0) (p18.getD 0 ⟨0,[], .skip⟩) (k18l0.mk' s)=B18l0 gl0 c68 c69 c72 c73 c78 c79 c80 c81 s.1.1 s.1.2.1 s.2.1 s.2.2.1 s.2.2.2.1 s.2.2.2.2.1 s.2.2.2.2.2.1:=by kernel_rfl
noncomputable def B18 (x0:TQ) (x1:TQ) (x2:TQ):Option R18:=(c64).bind fun r1=>((c65).bind fun r2=>((c66).bind fun r3=>((c67).bind fun r4=>((c63 x0 x1 x2 ([(r1.1,r1.2),(r2.1,r2.2),(r3.1,r3.2),(r4.1,r4.2)]:List (Int×Int))).bind fun r5=>(if r5≠0 then((c68 r5).bind fun r6=>(some (r6.1,r6.2.1,r6.2.2.1,r6.2.2.2.1,r6.2.2.2.2)))else((c70 x0 x1 x2).bind fun r7=>((c69 (r7.1,r7.2)).bind fun r8=>(cnd ((!r8.2.2)) ((c68 10).bind fun r9=>(some (r9.1,r9.2.1,r9.2.2.1,r9.2.2.2.1,r9.2.2.2.2))) ((c74 x0 (r8.1,r8.2.1)).bind fun r10=>((c73 (r10.1,r10.2)).bind fun r11=>((c75 x0 (r8.1,r8.2.1)).bind fun r12=>((c73 (r12.1,r12.2)).bind fun r13=>(gl0 2 0 x1 x2 ((false,(⟨#[]⟩:ByteArray)),(⟨#[]⟩:ByteArray)) ((false,(⟨#[]⟩:ByteArray)),(⟨#[]⟩:ByteArray)) ([(r11.1,r11.2),(r13.1,r13.2)]:List TQ))))))))))))))
theorem e18 (s:ask18.T):evFn E0 (orcOf (fes18 c63 c64 c65 c66 c67 c68 c69 c70 c72 c73 c74 c75 c78 c79 c80 c81)) an18 (loOf (les18 gl0)) 96 cd18 Tryz.f18.results.toList rm18 (ask18.mk' s) (decW rsk18 dec18)=B18 gl0 c63 c64 c65 c66 c67 c68 c69 c70 c73 c74 c75 s.1.1 s.1.2.1 s.1.2.2.1:=by kernel_rfl
end
noncomputable def an3:Ann:=⟨[],[],[]⟩
noncomputable def cd3:Code:=(Tryz.f3.body).getD .skip
noncomputable def p3:List Pos:=posns an3 [] cd3
noncomputable def rm3:List RM:=[.d .bo]
noncomputable def les3:List (LoE R3):=[]
noncomputable def fes3 (c7:Int→Option R7) (c8:Option R8) (c9:Int→Option R9) (c10:TI→Option R10) (c11:Int→Int→Option R11) (c12:TQ→TQ→Option R12) (c13:TI→Option R13) (c14:Int→Option R14) (c15:TQ→TQ→TQ→Option R15) (c16:TQ→TQ→Option R16) (c17:TQ→TQ→Option R17) (c18:TQ→TQ→TQ→Option R18):List FE:=[(fe7 c7),(fe8 c8),(fe9 c9),(fe10 c10),(fe11 c11),(fe12 c12),(fe13 c13),(fe14 c14),(fe15 c15),(fe16 c16),(fe17 c17),(fe18 c18)]
section
variable (c7:Int→Option R7) (c8:Option R8) (c9:Int→Option R9) (c10:TI→Option R10) (c11:Int→Int→Option R11) (c12:TQ→TQ→Option R12) (c13:TI→Option R13) (c14:Int→Option R14) (c15:TQ→TQ→TQ→Option R15) (c16:TQ→TQ→Option R16) (c17:TQ→TQ→Option R17) (c18:TQ→TQ→TQ→Option R18)
noncomputable def B3 (x0:Int):Option R3:=if wrap64 (x0)>200 then((c8).bind fun r1=>(some r1))else((c7 (wrap64 (x0))).bind fun r2=>(cnd ((!r2)) ((c8).bind fun r3=>(some r3)) ((c9 (wrap64 (x0))).bind fun r4=>(if r4.2.2.2≠0 then(some false)else((c10 r4.1).bind fun r5=>(cnd ((!r5)) (some false) ((c10 r4.2.1).bind fun r6=>(cnd ((!r6)) (some false) ((c11 1 2).bind fun r7=>((c13 r4.1).bind fun r8=>((c12 (r8.1,r8.2) (r7.1,r7.2)).bind fun r9=>((c13 r4.2.1).bind fun r10=>((c12 (r10.1,r10.2) (r7.1,r7.2)).bind fun r11=>((c14 (wrap64 (x0))).bind fun r12=>(if r4.2.2.1=1 then((c15 (r9.1,r9.2) (r11.1,r11.2) (r12.1,r12.2)).bind fun r13=>((c14 1).bind fun r14=>(if r13.2.2.2.2≠0 then(some false)else((c16 (r9.1,r9.2) (r14.1,r14.2)).bind fun r15=>((c12 (r15.1,r15.2) (r7.1,r7.2)).bind fun r16=>(cnd ((!(((r13.1.1==r16.1.1)&&(eqS r13.1.2 r16.1.2))&&(eqS r13.2.1 r16.2)))) (some false) ((c17 (r9.1,r9.2) (r14.1,r14.2)).bind fun r17=>((c12 (r17.1,r17.2) (r7.1,r7.2)).bind fun r18=>(cnd ((!(((r13.2.2.1.1==r18.1.1)&&(eqS r13.2.2.1.2 r18.1.2))&&(eqS r13.2.2.2.1 r18.2)))) (some false) ((c12 (r9.1,r9.2) (r9.1,r9.2)).bind fun r19=>((c12 (r11.1,r11.2) (r11.1,r11.2)).bind fun r20=>((c12 (r20.1,r20.2) (r12.1,r12.2)).bind fun r21=>((c16 (r19.1,r19.2) (r21.1,r21.2)).bind fun r22=>((c14 2).bind fun r23=>((c12 (r9.1,r9.2) (r11.1,r11.2)).bind fun r24=>((c12 (r23.1,r23.2) (r24.1,r24.2)).bind fun r25=>((c18 (r22.1,r22.2) (r25.1,r25.2) (r12.1,r12.2)).bind fun r26=>(if r26.2.2.2.2=0 then(cnd ((((r26.1.1==r9.1.1)&&(eqS r26.1.2 r9.1.2))&&(eqS r26.2.1 r9.2))) (cnd ((((r26.2.2.1.1==r11.1.1)&&(eqS r26.2.2.1.2 r11.1.2))&&(eqS r26.2.2.2.1 r11.2))) ((c8).bind fun r27=>(some r27)) (some false)) (some false))else(some false)))))))))))))))))))else((c12 (r9.1,r9.2) (r9.1,r9.2)).bind fun r28=>((c12 (r11.1,r11.2) (r11.1,r11.2)).bind fun r29=>((c12 (r29.1,r29.2) (r12.1,r12.2)).bind fun r30=>((c16 (r28.1,r28.2) (r30.1,r30.2)).bind fun r31=>((c14 2).bind fun r32=>((c12 (r9.1,r9.2) (r11.1,r11.2)).bind fun r33=>((c12 (r32.1,r32.2) (r33.1,r33.2)).bind fun r34=>((c18 (r31.1,r31.2) (r34.1,r34.2) (r12.1,r12.2)).bind fun r35=>(if r35.2.2.2.2=0 then(cnd ((((r35.1.1==r9.1.1)&&(eqS r35.1.2 r9.1.2))&&(eqS r35.2.1 r9.2))) (cnd ((((r35.2.2.1.1==r11.1.1)&&(eqS r35.2.2.1.2 r11.1.2))&&(eqS r35.2.2.2.1 r11.2))) ((c8).bind fun r36=>(some r36)) (some false)) (some false))else(some false)))))))))))))))))))))))))
theorem e3 (s:ask3.T):evFn E0 (orcOf (fes3 c7 c8 c9 c10 c11 c12 c13 c14 c15 c16 c17 c18)) an3 (loOf (les3)) 130 cd3 Tryz.f3.results.toList rm3 (ask3.mk' s) (decW rsk3 dec3)=B3 c7 c8 c9 c10 c11 c12 c13 c14 c15 c16 c17 c18 s.1.1:=by kernel_rfl
end
noncomputable def an55:Ann:=⟨[],[],[]⟩
noncomputable def cd55:Code:=(Tryz.f55.body).getD .skip
noncomputable def rm55:List RM:=[.d (.ag (.pr .bo .st))]
noncomputable def les55:List (LoE R55):=[]
noncomputable def fes55 (c141:TI→TI→Option R141) (c142:TI→Option R142):List FE:=[(fe141 c141),(fe142 c142)]
section
variable (c141:TI→TI→Option R141) (c142:TI→Option R142)
noncomputable def B55 (x0:TI) (x1:TI):Option R55:=(c142 x1).bind fun r1=>((c141 x0 (r1.1,r1.2)).bind fun r2=>(some (r2.1,r2.2)))
theorem e55 (s:ask55.T):evFn E0 (orcOf (fes55 c141 c142)) an55 (loOf (les55)) 9 cd55 Tryz.f55.results.toList rm55 (ask55.mk' s) (decW rsk55 dec55)=B55 c141 c142 s.1.1 s.1.2.1:=by kernel_rfl
end
noncomputable def an145:Ann:=⟨[],[],[]⟩
noncomputable def cd145:Code:=(Tryz.f145.body).getD .skip
noncomputable def rm145:List RM:=[.d (.it .u64), .d .bo]
noncomputable def les145:List (LoE R145):=[]
noncomputable def fes145 (c220:ByteArray→Option R220):List FE:=[(fe220 c220)]
section
variable (c220:ByteArray→Option R220)
noncomputable def B145 (x0:ByteArray):Option R145:=(c220 x0).bind fun r1=>(if(r1.length:Int)>1 then(some (0,false))else(if(r1.length:Int)=0 then(some (0,true))else(if(0:Int)≤0 then(if 0<(r1.length:Int)then(some (rd r1 0,true))else(none))else(none))))
theorem e145 (s:ask145.T):evFn E0 (orcOf (fes145 c220)) an145 (loOf (les145)) 16 cd145 Tryz.f145.results.toList rm145 (ask145.mk' s) (decW rsk145 dec145)=B145 c220 s.1.1:=by kernel_rfl
end
noncomputable def an58:Ann:=⟨[],[],[]⟩
noncomputable def cd58:Code:=(Tryz.f58.body).getD .skip
noncomputable def rm58:List RM:=[.d (.it .i64), .d .bo]
noncomputable def les58:List (LoE R58):=[]
noncomputable def fes58 (c145:ByteArray→Option R145):List FE:=[(fe145 c145)]
section
variable (c145:ByteArray→Option R145)
noncomputable def B58 (x0:TI):Option R58:=(c145 x0.2).bind fun r1=>(cnd ((!r1.2)) (some (0,false)) (if r1.1>9223372036854775808 then(some (0,false))else(if r1.1=9223372036854775808 then(cnd ((!x0.1)) (some (0,false)) (cnd (x0.1) (some (wrap64 (IntKind.u64.wrap (0-r1.1)),true)) (some (wrap64 (r1.1),true))))else(cnd (x0.1) (some (wrap64 (IntKind.u64.wrap (0-r1.1)),true)) (some (wrap64 (r1.1),true))))))
theorem e58 (s:ask58.T):evFn E0 (orcOf (fes58 c145)) an58 (loOf (les58)) 36 cd58 Tryz.f58.results.toList rm58 (ask58.mk' s) (decW rsk58 dec58)=B58 c145 s.1.1:=by kernel_rfl
end
noncomputable def an140:Ann:=⟨[(2,[(0, .any),(3, .any)])],[],[]⟩
noncomputable def cd140:Code:=(Tryz.f140.body).getD .skip
noncomputable def p140:List Pos:=posns an140 [] cd140
noncomputable def rm140:List RM:=[.d (.it .i64)]
noncomputable def rk140 (s0:SbT ask140.bl):KX R140:=retK E0 Tryz.f140.results.toList rm140 (mkB ask140.bl s0) (decW rsk140 dec140)
noncomputable def k140l0:Sk:=⟨[(0, .d (.it .i64)),(3, .d (.it .i64))],[]⟩
noncomputable def les140 (gl0:Int→Int→Option R140):List (LoE R140):=[⟨2,k140l0,fun s=>gl0 s.1.1 s.1.2.1⟩]
noncomputable def fes140:List FE:=[]
section
variable (gl0:Int→Int→Option R140)
noncomputable def B140l0 (x0:Int) (x3:Int):Option R140:=if wrap64 ((wrap64 (x3+1))*(wrap64 (x3+1)))≤x0 then(gl0 x0 (wrap64 (x3+1)))else(some x3)
theorem e140l0 (s0:SbT ask140.bl) (s:k140l0.T):evPos E0 (orcOf (fes140)) 14 an140 (loOf (les140 gl0)) (rk140 s0) (p140.getD 0 ⟨0,[], .skip⟩) (k140l0.mk' s)=B140l0 gl0 s.1.1 s.1.2.1:=by kernel_rfl
noncomputable def B140 (x0:Int):Option R140:=gl0 x0 0
theorem e140 (s:ask140.T):evFn E0 (orcOf (fes140)) an140 (loOf (les140 gl0)) 14 cd140 Tryz.f140.results.toList rm140 (ask140.mk' s) (decW rsk140 dec140)=B140 gl0 s.1.1:=by kernel_rfl
end
end Go.Proofs.YtfllafbphddooaaGreatV
namespace Go.Proofs.YtfllafbphddooaaGreatE
open Go.RowKit Go.Proofs.YtfllafbphddooaaGreatW.PrintWords Go.Proofs.YtfllafbphddooaaGreatW.PrintLast Go.Proofs.YtfllafbphddooaaGreatW.PrintMore
end Go.Proofs.YtfllafbphddooaaGreatE
namespace Go.Proofs.YtfllafbphddooaaGreat
end Go.Proofs.YtfllafbphddooaaGreat
namespace Go.Proofs.YtfllafbphddooaaGreat.All
def bits_Add64.f (a0:Int) (a1:Int) (a2:Int):Option (Int×Int):=if 0≤a0∧0≤a1∧0≤a2∧a2≤1 then some ((a0+a1+a2)%18446744073709551616,(a0+a1+a2)/18446744073709551616)else none
def bits_Sub64.f (a0:Int) (a1:Int) (a2:Int):Option (Int×Int):=if 0≤a0∧0≤a1∧a1≤18446744073709551615∧0≤a2∧a2≤1 then some ((a0-a1-a2)%18446744073709551616,if a0<a1+a2 then 1 else 0)else none
end Go.Proofs.YtfllafbphddooaaGreat.All
namespace Go.Proofs.YtfllafbphddooaaGreatV
open Go Go.RowKit YtfllafbphddooaaGreat YtfllafbphddooaaGreatE YtfllafbphddooaaGreatW.PrintWords YtfllafbphddooaaGreatW.PrintLast YtfllafbphddooaaGreatW.PrintMore
noncomputable abbrev FX268 (k:Nat) (x0:(List Int)):Option R268:=B268m x0
noncomputable abbrev FX251 (k:Nat) (x0:Int) (x1:Int) (x2:Int):Option R251:=All.bits_Add64.f x0 x1 x2
noncomputable abbrev FX232 (k:Nat) (x0:Int) (x1:Int) (x2:Int):Option R232:=All.bits_Sub64.f x0 x1 x2
end Go.Proofs.YtfllafbphddooaaGreatV
set_option maxRecDepth 100000
namespace Go.Proofs.YtfllafbphddooaaGreatV
open Go Go.RowKit YtfllafbphddooaaGreat YtfllafbphddooaaGreatE YtfllafbphddooaaGreatW.PrintWords YtfllafbphddooaaGreatW.PrintLast YtfllafbphddooaaGreatW.PrintMore
noncomputable abbrev FX49 (k:Nat) (x0:Int):Option R49:=B49 x0
noncomputable abbrev FX136 (k:Nat) (x0:Int):Option R136:=B136 x0
mutual
noncomputable def GX50l0:Nat→Int→Int→Int→Option R50
 |0,_,_,_=>none
 |k+1,x4,x5,x6=>B50l0 (GX50l1 k) (FX136 k) x4 x5 x6
noncomputable def GX50l1:Nat→Int→Int→Int→Option R50
 |0,_,_,_=>none
 |k+1,x4,x5,x6=>B50l1 (GX50l0 k) (GX50l1 k) x4 x5 x6
end
noncomputable abbrev FX50 (k:Nat) (x0:Int):Option R50:=B50 (GX50l0 k) x0
noncomputable abbrev FX51 (k:Nat) (x0:Int) (x1:Int):Option R51:=B51 x0 x1
noncomputable abbrev FX7 (k:Nat) (x0:Int):Option R7:=B7 (FX49 k) (FX50 k) (FX51 k) x0
noncomputable def GX40l0:Nat→(List TQ)→(List TQ)→Int→Int→Option R40
 |0,_,_,_,_=>none
 |k+1,x0,x1,x12,x13=>B40l0 (GX40l0 k) x0 x1 x12 x13
noncomputable abbrev FX40 (k:Nat) (x0:(List TQ)) (x1:(List TQ)):Option R40:=B40 (GX40l0 k) x0 x1
noncomputable def GX200l0:Nat→Int→Int→Option R200
 |0,_,_=>none
 |k+1,x0,x1=>B200l0 (GX200l0 k) x0 x1
noncomputable abbrev FX200 (k:Nat) (x0:Int) (x1:Int):Option R200:=B200 (GX200l0 k) x0 x1
noncomputable def GX197l0:Nat→Int→Int→Int→(List Int)→Option R197
 |0,_,_,_,_=>none
 |k+1,x0,x5,x6,x3=>B197l0 (GX197l0 k) (FX200 k) x0 x5 x6 x3
noncomputable abbrev FX197 (k:Nat) (x0:Int):Option R197:=B197 (GX197l0 k) x0
mutual
noncomputable def GX115l0:Nat→Int→(List Int)→(List Int)→Int→Int→Option R115
 |0,_,_,_,_,_=>none
 |k+1,x0,x1,x9,x10,x11=>B115l0 (GX115l0 k) (GX115l1 k) x0 x1 x9 x10 x11
noncomputable def GX115l1:Nat→Int→(List Int)→Int→Int→Option R115
 |0,_,_,_,_=>none
 |k+1,x0,x22,x23,x24=>B115l1 (GX115l1 k) (FX197 k) x0 x22 x23 x24
end
noncomputable abbrev FX115 (k:Nat) (x0:Int) (x1:(List Int)):Option R115:=B115 (GX115l0 k) x0 x1
noncomputable def GX234vl0:Nat→(List Int)→Int→Option R234v
 |0,_,_=>none
 |k+1,x0,x3=>B234vl0 (GX234vl0 k) x0 x3
noncomputable abbrev FX234v (k:Nat) (x0:(List Int)):Option R234v:=B234v (GX234vl0 k) x0
mutual
noncomputable def GX192l0:Nat→(List Int)→Int→Int→(List Int)→Option R192
 |0,_,_,_,_=>none
 |k+1,x17,x18,x19,x3=>B192l0 (GX192l1 k) (GX192l2 k) x17 x18 x19 x3
noncomputable def GX192l1:Nat→Int→Int→(List Int)→Int→Int→Int→(List Int)→Option R192
 |0,_,_,_,_,_,_,_=>none
 |k+1,x4,x5,x17,x18,x19,x24,x3=>B192l1 (GX192l0 k) (GX192l1 k) x4 x5 x17 x18 x19 x24 x3
noncomputable def GX192l2:Nat→Int→(List Int)→Option R192
 |0,_,_=>none
 |k+1,x7,x3=>B192l2 (GX192l2 k) x7 x3
end
noncomputable abbrev FX192 (k:Nat) (x0:(List Int)):Option R192:=B192 (GX192l0 k) (FX234v k) x0
noncomputable abbrev FX108 (k:Nat) (x0:Int):Option R108:=B108 (FX192 k) x0
noncomputable abbrev FX57 (k:Nat) (x0:Int):Option R57:=B57 (FX108 k) x0
noncomputable abbrev FX159 (k:Nat) (x0:TI):Option R159:=B159 x0
noncomputable abbrev FX122 (k:Nat) (x0:Int):Option R122:=B122 (FX57 k) (FX159 k) x0
noncomputable abbrev FX78 (k:Nat) (x0:TQ):Option R78:=B78 x0
noncomputable def GX123l0:Nat→(List TQ)→Int→Option R123
 |0,_,_=>none
 |k+1,x0,x3=>B123l0 (GX123l0 k) (FX78 k) x0 x3
noncomputable abbrev FX123 (k:Nat) (x0:(List TQ)):Option R123:=B123 (GX123l0 k) x0
noncomputable def GX201l0:Nat→(List Int)→Int→Int→(List TQ)→Option R201
 |0,_,_,_,_=>none
 |k+1,x9,x10,x11,x3=>B201l0 (GX201l0 k) (FX122 k) (FX123 k) x9 x10 x11 x3
noncomputable abbrev FX201 (k:Nat) (x0:(List Int)):Option R201:=B201 (GX201l0 k) x0
noncomputable abbrev FX268n (k:Nat) (x0:(List Int)):Option R268n:=B268n x0
noncomputable abbrev FX268m (k:Nat) (x0:(List Int)):Option R268m:=B268m x0
mutual
noncomputable def GX240l0:Nat→(List Int)→(List (List Int))→Int→Int→Option R240
 |0,_,_,_,_=>none
 |k+1,x0,x13,x14,x15=>B240l0 (GX240l1 k) (FX268 k) x0 x13 x14 x15
noncomputable def GX240l1:Nat→(List Int)→Int→Int→(List (List Int))→Int→Int→(List Int)→(List Int)→Option R240
 |0,_,_,_,_,_,_,_,_=>none
 |k+1,x6,x8,x10,x13,x14,x15,x7,x9=>B240l1 (GX240l0 k) (GX240l2 k) x6 x8 x10 x13 x14 x15 x7 x9
noncomputable def GX240l2:Nat→(List Int)→Int→Int→(List (List Int))→Int→Int→(List Int)→Int→Int→(List Int)→(List Int)→Option R240
 |0,_,_,_,_,_,_,_,_,_,_,_=>none
 |k+1,x6,x8,x10,x13,x14,x15,x45,x46,x47,x7,x9=>B240l2 (GX240l1 k) (GX240l2 k) x6 x8 x10 x13 x14 x15 x45 x46 x47 x7 x9
end
noncomputable abbrev FX240 (k:Nat) (x0:(List Int)) (x1:(List (List Int))):Option R240:=B240 (GX240l0 k) x0 x1
noncomputable def GX202Al0:Nat→Int→Int→(List Int)→(List (List Int))→Option R202
 |0,_,_,_,_=>none
 |k+1,x0,x5,x3,x4=>B202l0 (GX202Al0 k) (fun _=>none) (FX240 k) x0 x5 x3 x4
noncomputable abbrev FX202A (k:Nat) (x0:Int):Option R202:=B202 (GX202Al0 k) x0
noncomputable def GX202Bl0:Nat→Int→Int→(List Int)→(List (List Int))→Option R202
 |0,_,_,_,_=>none
 |k+1,x0,x5,x3,x4=>B202l0 (GX202Bl0 k) (FX202A k) (FX240 k) x0 x5 x3 x4
noncomputable abbrev FX202B (k:Nat) (x0:Int):Option R202:=B202 (GX202Bl0 k) x0
noncomputable def GX202l0:Nat→Int→Int→(List Int)→(List (List Int))→Option R202
 |0,_,_,_,_=>none
 |k+1,x0,x5,x3,x4=>B202l0 (GX202l0 k) (FX202B k) (FX240 k) x0 x5 x3 x4
noncomputable abbrev FX202 (k:Nat) (x0:Int):Option R202:=B202 (GX202l0 k) x0
noncomputable abbrev FX117 (k:Nat) (x0:Int):Option R117:=B117 (FX201 k) (FX202 k) x0
noncomputable abbrev FX43 (k:Nat) (x0:Int):Option R43:=B43 (FX115 k) (FX117 k) x0
mutual
noncomputable def GX180l0:Nat→(List Int)→Int→(List Int)→Option R180
 |0,_,_,_=>none
 |k+1,x0,x4,x3=>B180l0 (GX180l1 k) x0 x4 x3
noncomputable def GX180l1:Nat→(List Int)→Int→Int→(List Int)→Option R180
 |0,_,_,_,_=>none
 |k+1,x0,x4,x5,x3=>B180l1 (GX180l0 k) (GX180l1 k) x0 x4 x5 x3
end
noncomputable abbrev FX180 (k:Nat) (x0:(List Int)):Option R180:=B180 (GX180l0 k) x0
noncomputable abbrev FX93 (k:Nat) (x0:Int):Option R93:=B93 (FX180 k) x0
noncomputable abbrev FX25 (k:Nat) (x0:Int):Option R25:=B25 (FX93 k) x0
noncomputable abbrev FX14 (k:Nat) (x0:Int):Option R14:=B14 (FX25 k) x0
noncomputable abbrev FX248 (k:Nat) (x0:TI):Option R248:=B248 x0
noncomputable abbrev FX213 (k:Nat) (x0:TQ):Option R213:=B213 (FX248 k) x0
noncomputable def GX132l0:Nat→(List TQ)→Int→Option R132
 |0,_,_=>none
 |k+1,x0,x3=>B132l0 (GX132l0 k) (FX213 k) x0 x3
noncomputable abbrev FX132 (k:Nat) (x0:(List TQ)):Option R132:=B132 (GX132l0 k) x0
noncomputable def GX46l0:Nat→(List Int)→Int→Int→(List TQ)→Option R46
 |0,_,_,_,_=>none
 |k+1,x6,x7,x8,x3=>B46l0 (GX46l0 k) (FX14 k) (FX132 k) x6 x7 x8 x3
noncomputable abbrev FX46 (k:Nat) (x0:(List Int)):Option R46:=B46 (GX46l0 k) x0
noncomputable abbrev FX8 (k:Nat):Option R8:=B8 (FX40 k) (FX43 k) (FX46 k)
noncomputable def GX52l0:Nat→(List Int)→Int→Int→Option R52
 |0,_,_,_=>none
 |k+1,x5,x6,x7=>B52l0 (GX52l0 k) x5 x6 x7
noncomputable abbrev FX52 (k:Nat) (x0:(List Int)):Option R52:=B52 (GX52l0 k) x0
noncomputable abbrev FX137 (k:Nat) (x0:Int):Option R137:=B137 x0
mutual
noncomputable def GX138l0:Nat→Int→Int→Int→Option R138
 |0,_,_,_=>none
 |k+1,x0,x4,x5=>B138l0 (GX138l1 k) x0 x4 x5
noncomputable def GX138l1:Nat→Int→Int→Int→Option R138
 |0,_,_,_=>none
 |k+1,x0,x4,x5=>B138l1 (GX138l0 k) (GX138l1 k) x0 x4 x5
end
noncomputable abbrev FX138 (k:Nat) (x0:Int):Option R138:=B138 (GX138l0 k) x0
noncomputable abbrev FX53 (k:Nat) (x0:Int):Option R53:=B53 (FX137 k) (FX138 k) x0
noncomputable abbrev FX54 (k:Nat) (x0:Int):Option R54:=B54 x0
noncomputable abbrev FX59 (k:Nat) (x0:ByteArray):Option R59:=B59 x0
noncomputable abbrev FX10 (k:Nat) (x0:TI):Option R10:=B10 (FX59 k) x0
noncomputable def GX253l0:Nat→Int→(List Int)→Option R253
 |0,_,_=>none
 |k+1,x0,y0=>B253l0 (GX253l0 k) x0 y0
noncomputable abbrev FX253 (k:Nat) (y0:(List Int)):Option R253:=B253 (GX253l0 k) y0
mutual
noncomputable def GX221l0:Nat→ByteArray→Int→(List Int)→Option R221
 |0,_,_,_=>none
 |k+1,x0,x4,x3=>B221l0 (GX221l1 k) (FX253 k) x0 x4 x3
noncomputable def GX221l1:Nat→ByteArray→Int→Int→Int→(List Int)→Option R221
 |0,_,_,_,_,_=>none
 |k+1,x0,x4,x5,x6,x3=>B221l1 (GX221l0 k) (GX221l1 k) x0 x4 x5 x6 x3
end
noncomputable abbrev FX221 (k:Nat) (x0:ByteArray):Option R221:=B221 (GX221l0 k) x0
noncomputable def GX222l0:Nat→Int→(List Int)→Int→(List Int)→Option R222
 |0,_,_,_,_=>none
 |k+1,x0,x1,x5,y0=>B222l0 (GX222l0 k) x0 x1 x5 y0
noncomputable abbrev FX222 (k:Nat) (x1:(List Int)) (y0:(List Int)):Option R222:=B222 (GX222l0 k) (FX253 k) x1 y0
mutual
noncomputable def GX147l0:Nat→(List Int)→Int→Int→(List Int)→(List Int)→Option R147
 |0,_,_,_,_,_=>none
 |k+1,x7,x8,x11,x9,x10=>B147l0 (GX147l1 k) (FX180 k) x7 x8 x11 x9 x10
noncomputable def GX147l1:Nat→(List Int)→Int→Int→(List Int)→(List Int)→Option R147
 |0,_,_,_,_,_=>none
 |k+1,x7,x8,x11,x9,x10=>B147l1 (GX147l0 k) (GX147l2 k) (FX222 k) x7 x8 x11 x9 x10
noncomputable def GX147l2:Nat→(List Int)→Int→Int→Int→Int→Int→(List Int)→(List Int)→Option R147
 |0,_,_,_,_,_,_,_,_=>none
 |k+1,x7,x8,x11,x12,x13,x14,x9,x10=>B147l2 (GX147l1 k) (GX147l2 k) x7 x8 x11 x12 x13 x14 x9 x10
end
noncomputable abbrev FX147 (k:Nat) (x0:ByteArray) (x1:ByteArray):Option R147:=B147 (GX147l0 k) (FX221 k) x0 x1
noncomputable def GX146l0:Nat→ByteArray→ByteArray→Option R146
 |0,_,_=>none
 |k+1,x0,x1=>B146l0 (GX146l0 k) (FX147 k) x0 x1
noncomputable abbrev FX146 (k:Nat) (x0:ByteArray) (x1:ByteArray):Option R146:=B146 (GX146l0 k) x0 x1
noncomputable abbrev FX148 (k:Nat) (x0:Bool) (x1:ByteArray):Option R148:=B148 x0 x1
noncomputable abbrev FX60 (k:Nat) (x0:TI) (x1:TI):Option R60:=B60 (FX146 k) (FX147 k) (FX148 k) x0 x1
noncomputable abbrev FX11 (k:Nat) (x0:Int) (x1:Int):Option R11:=B11 (FX25 k) (FX60 k) x0 x1
noncomputable abbrev FX13 (k:Nat) (x0:TI):Option R13:=B13 x0
mutual
noncomputable def GX149l0:Nat→Int→(List Int)→(List Int)→(List Int)→Option R149
 |0,_,_,_,_=>none
 |k+1,x8,x5,x6,x7=>B149l0 (GX149l1 k) (FX180 k) x8 x5 x6 x7
noncomputable def GX149l1:Nat→Int→Int→Int→(List Int)→(List Int)→(List Int)→Option R149
 |0,_,_,_,_,_,_=>none
 |k+1,x8,x9,x10,x5,x6,x7=>B149l1 (GX149l0 k) (GX149l1 k) x8 x9 x10 x5 x6 x7
end
noncomputable abbrev FX149 (k:Nat) (x0:ByteArray) (x1:ByteArray):Option R149:=B149 (GX149l0 k) (FX221 k) x0 x1
noncomputable abbrev FX61 (k:Nat) (x0:TI) (x1:TI):Option R61:=B61 (FX148 k) (FX149 k) x0 x1
noncomputable abbrev FX62 (k:Nat) (x0:TQ):Option R62:=B62 x0
noncomputable abbrev FX12 (k:Nat) (x0:TQ) (x1:TQ):Option R12:=B12 (FX13 k) (FX60 k) (FX61 k) (FX62 k) x0 x1
noncomputable abbrev FX91 (k:Nat) (x0:ByteArray):Option R91:=B91 x0
noncomputable abbrev FX254 (k:Nat):Option R254:=B254
noncomputable abbrev FX223 (k:Nat) (x0:TI):Option R223:=B223 (FX91 k) (FX254 k) x0
noncomputable def GX234l0:Nat→Int→(List Int)→Option R234
 |0,_,_=>none
 |k+1,x3,y0=>B234l0 (GX234l0 k) x3 y0
noncomputable abbrev FX234 (k:Nat) (y0:(List Int)):Option R234:=B234 (GX234l0 k) y0
noncomputable def GX220l0:Nat→ByteArray→Int→Int→(List Int)→Option R220
 |0,_,_,_,_=>none
 |k+1,x0,x12,x13,x3=>B220l0 (GX220l0 k) (FX234 k) x0 x12 x13 x3
noncomputable abbrev FX220 (k:Nat) (x0:ByteArray):Option R220:=B220 (GX220l0 k) x0
noncomputable def GX259l0:Nat→(List Int)→(List Int)→Int→Option R259
 |0,_,_,_=>none
 |k+1,x0,x1,x5=>B259l0 (GX259l0 k) x0 x1 x5
noncomputable abbrev FX259 (k:Nat) (x0:(List Int)) (x1:(List Int)):Option R259:=B259 (GX259l0 k) x0 x1
noncomputable abbrev FX272 (k:Nat) (x0:Int):Option R272:=B272 x0
noncomputable abbrev FX261 (k:Nat) (x0:Int):Option R261:=B261 (FX272 k) x0
mutual
noncomputable def GX260l0:Nat→Int→Int→Int→Int→Int→Int→Int→Int→Int→Option R260
 |0,_,_,_,_,_,_,_,_,_=>none
 |k+1,x2,x8,x9,x10,x11,x13,x14,x15,x16=>B260l0 (GX260l0 k) (GX260l1 k) x2 x8 x9 x10 x11 x13 x14 x15 x16
noncomputable def GX260l1:Nat→Int→Int→Int→Int→Int→Int→Int→Int→Int→Option R260
 |0,_,_,_,_,_,_,_,_,_=>none
 |k+1,x2,x8,x9,x10,x14,x15,x16,x17,x18=>B260l1 (GX260l1 k) x2 x8 x9 x10 x14 x15 x16 x17 x18
end
noncomputable abbrev FX260 (k:Nat) (x0:Int) (x1:Int) (x2:Int):Option R260:=B260 (GX260l0 k) (FX261 k) x0 x1 x2
noncomputable def GX262l0:Nat→Int→(List Int)→Int→Int→(List Int)→Option R262
 |0,_,_,_,_,_=>none
 |k+1,x1,x12,x13,x14,x5=>B262l0 (GX262l0 k) x1 x12 x13 x14 x5
noncomputable abbrev FX262 (k:Nat) (x0:(List Int)) (x1:Int):Option R262:=B262 (GX262l0 k) x0 x1
noncomputable abbrev FX252 (k:Nat) (x0:Int) (x1:Int):Option R252:=B252 x0 x1
mutual
noncomputable def GX263l0:Nat→(List Int)→Int→Int→Int→Int→(List Int)→Option R263
 |0,_,_,_,_,_,_=>none
 |k+1,x1,x5,x6,x7,x8,y0=>B263l0 (GX263l0 k) (GX263l1 k) (FX251 k) (FX252 k) x1 x5 x6 x7 x8 y0
noncomputable def GX263l1:Nat→(List Int)→Int→Int→Int→Int→Int→Int→(List Int)→Option R263
 |0,_,_,_,_,_,_,_,_=>none
 |k+1,x1,x5,x6,x11,x12,x104,x105,y0=>B263l1 (GX263l1 k) (GX263l2 k) (FX232 k) (FX251 k) (FX252 k) x1 x5 x6 x11 x12 x104 x105 y0
noncomputable def GX263l2:Nat→(List Int)→Int→Int→Int→Int→Int→(List Int)→Option R263
 |0,_,_,_,_,_,_,_=>none
 |k+1,x1,x5,x6,x17,x156,x157,y0=>B263l2 (GX263l2 k) (FX251 k) x1 x5 x6 x17 x156 x157 y0
end
noncomputable abbrev FX263 (k:Nat) (x1:(List Int)) (y0:(List Int)):Option R263:=B263 (GX263l0 k) (FX251 k) (FX260 k) x1 y0
mutual
noncomputable def GX233l0:Nat→(List Int)→(List Int)→Int→Int→(List Int)→Option R233
 |0,_,_,_,_,_=>none
 |k+1,x0,x1,x7,x8,x6=>B233l0 (GX233l0 k) (FX234 k) (FX260 k) x0 x1 x7 x8 x6
noncomputable def GX233l1:Nat→Int→(List Int)→Int→Int→(List Int)→(List Int)→Option R233
 |0,_,_,_,_,_,_=>none
 |k+1,x9,x10,x12,x14,x11,x13=>B233l1 (GX233l1 k) (GX233l2 k) (FX263 k) x9 x10 x12 x14 x11 x13
noncomputable def GX233l2:Nat→Int→Int→Int→Int→(List Int)→(List Int)→Option R233
 |0,_,_,_,_,_,_=>none
 |k+1,x9,x12,x96,x97,x11,x13=>B233l2 (GX233l2 k) (FX234 k) x9 x12 x96 x97 x11 x13
end
noncomputable abbrev FX233 (k:Nat) (x0:(List Int)) (x1:(List Int)):Option R233:=B233 (GX233l0 k) (GX233l1 k) (FX234 k) (FX259 k) (FX261 k) (FX262 k) x0 x1
noncomputable def GX224l0:Nat→(List Int)→(List Int)→Option R224
 |0,_,_=>none
 |k+1,x5,x6=>B224l0 (GX224l0 k) (FX192 k) (FX233 k) x5 x6
noncomputable abbrev FX224 (k:Nat) (x0:ByteArray) (x1:ByteArray):Option R224:=B224 (GX224l0 k) (FX220 k) x0 x1
noncomputable abbrev FX150 (k:Nat) (x0:TQ):Option R150:=B150 (FX91 k) (FX223 k) (FX224 k) x0
noncomputable abbrev FX157 (k:Nat) (x0:TI):Option R157:=B157 x0
noncomputable abbrev FX71 (k:Nat) (x0:TQ):Option R71:=B71 (FX157 k) x0
noncomputable abbrev FX151 (k:Nat) (x0:TQ) (x1:TQ) (x2:TQ):Option R151:=B151 (FX71 k) x0 x1 x2
mutual
noncomputable def GX219l0:Nat→(List Int)→(List Int)→Int→Int→(List Int)→Option R219
 |0,_,_,_,_,_=>none
 |k+1,x1,x20,x21,x22,x5=>B219l0 (GX219l1 k) (FX234 k) x1 x20 x21 x22 x5
noncomputable def GX219l1:Nat→(List Int)→Int→Int→Int→(List Int)→Int→Int→(List Int)→Int→Int→(List Int)→Option R219
 |0,_,_,_,_,_,_,_,_,_,_,_=>none
 |k+1,x1,x6,x7,x8,x20,x21,x22,x27,x28,x29,x5=>B219l1 (GX219l0 k) (GX219l1 k) (FX251 k) (FX252 k) x1 x6 x7 x8 x20 x21 x22 x27 x28 x29 x5
end
noncomputable abbrev FX219 (k:Nat) (x0:(List Int)) (x1:(List Int)):Option R219:=B219 (GX219l0 k) x0 x1
noncomputable abbrev FX144 (k:Nat) (x0:ByteArray) (x1:ByteArray):Option R144:=B144 (FX192 k) (FX219 k) (FX220 k) x0 x1
noncomputable def GX188l0:Nat→Int→(List Int)→(List Int)→Option R188
 |0,_,_,_=>none
 |k+1,x1,x5,x6=>B188l0 (GX188l0 k) (FX192 k) (FX219 k) x1 x5 x6
noncomputable abbrev FX188 (k:Nat) (x0:ByteArray) (x1:Int):Option R188:=B188 (GX188l0 k) (FX220 k) x0 x1
noncomputable def GX217l0:Nat→Int→Int→Int→(List Int)→(List Int)→(List Int)→Option R217
 |0,_,_,_,_,_,_=>none
 |k+1,x8,x27,x28,x5,x6,x7=>B217l0 (GX217l0 k) (FX192 k) (FX251 k) x8 x27 x28 x5 x6 x7
noncomputable abbrev FX217 (k:Nat) (x0:ByteArray) (x1:ByteArray):Option R217:=B217 (GX217l0 k) (FX220 k) x0 x1
noncomputable abbrev FX218 (k:Nat) (x0:ByteArray) (x1:ByteArray):Option R218:=B218 x0 x1
noncomputable abbrev FX271 (k:Nat) (x0:Int):Option R271:=B271 x0
noncomputable abbrev FX255 (k:Nat) (x0:ByteArray):Option R255:=B255 (FX271 k) x0
noncomputable abbrev FX256 (k:Nat) (x0:Int):Option R256:=B256 x0
noncomputable def GX225l0:Nat→ByteArray→Int→ByteArray→Int→Option R225
 |0,_,_,_,_=>none
 |k+1,x0,x1,x5,x6=>B225l0 (GX225l0 k) (FX188 k) (FX217 k) (FX218 k) (FX256 k) x0 x1 x5 x6
noncomputable abbrev FX225 (k:Nat) (x0:ByteArray) (x1:Int):Option R225:=B225 (GX225l0 k) (FX255 k) x0 x1
noncomputable abbrev FX155 (k:Nat) (x0:TI):Option R155:=B155 (FX144 k) (FX225 k) x0
noncomputable abbrev FX69 (k:Nat) (x0:TQ):Option R69:=B69 (FX122 k) (FX155 k) x0
noncomputable abbrev FX152 (k:Nat) (x0:TQ) (x1:TQ) (x2:TQ):Option R152:=B152 (FX69 k) x0 x1 x2
noncomputable abbrev FX153 (k:Nat) (x0:TQ) (x1:TQ) (x2:TQ):Option R153:=B153 (FX78 k) x0 x1 x2
noncomputable abbrev FX143 (k:Nat) (x0:Bool) (x1:ByteArray):Option R143:=B143 x0 x1
noncomputable abbrev FX56 (k:Nat) (x0:TI) (x1:TI):Option R56:=B56 (FX143 k) (FX144 k) x0 x1
noncomputable abbrev FX189 (k:Nat) (x0:ByteArray) (x1:ByteArray):Option R189:=B189 (FX192 k) (FX220 k) (FX233 k) x0 x1
noncomputable abbrev FX160 (k:Nat) (x0:TI) (x1:TI):Option R160:=B160 (FX143 k) (FX189 k) (FX224 k) x0 x1
noncomputable abbrev FX156 (k:Nat) (x0:TQ) (x1:TQ):Option R156:=B156 (FX56 k) (FX144 k) (FX159 k) (FX160 k) x0 x1
noncomputable abbrev FX226 (k:Nat) (x0:TI) (x1:TI):Option R226:=B226 (FX218 k) x0 x1
noncomputable abbrev FX166 (k:Nat) (x0:TQ) (x1:TQ):Option R166:=B166 (FX143 k) (FX144 k) (FX226 k) x0 x1
noncomputable abbrev FX80 (k:Nat) (x0:TQ) (x1:TQ) (x2:TQ):Option R80:=B80 (FX71 k) (FX156 k) (FX166 k) x0 x1 x2
noncomputable abbrev FX154 (k:Nat) (x0:TQ) (x1:TQ) (x2:TQ):Option R154:=B154 (FX80 k) x0 x1 x2
mutual
noncomputable def GX63l0:Nat→(List (Int×Int))→Int→Int→TQ→TQ→TQ→(List TQ)→Option R63
 |0,_,_,_,_,_,_,_=>none
 |k+1,x3,x18,x19,x4,x5,x6,x17=>B63l0 (GX63l0 k) (GX63l1 k) (FX150 k) x3 x18 x19 x4 x5 x6 x17
noncomputable def GX63l1:Nat→(List (Int×Int))→Int→Int→TQ→TQ→TQ→Option R63
 |0,_,_,_,_,_,_=>none
 |k+1,x29,x30,x31,x4,x5,x6=>B63l1 (GX63l1 k) (FX151 k) (FX152 k) (FX153 k) (FX154 k) x29 x30 x31 x4 x5 x6
end
noncomputable abbrev FX63 (k:Nat) (x0:TQ) (x1:TQ) (x2:TQ) (x3:(List (Int×Int))):Option R63:=B63 (GX63l0 k) x0 x1 x2 x3
noncomputable abbrev FX64 (k:Nat):Option R64:=B64
noncomputable abbrev FX65 (k:Nat):Option R65:=B65
noncomputable abbrev FX66 (k:Nat):Option R66:=B66
noncomputable abbrev FX67 (k:Nat):Option R67:=B67
noncomputable abbrev FX68 (k:Nat) (x0:Int):Option R68:=B68 x0
noncomputable def GX187l0:Nat→Int→Int→Int→(List Int)→(List Int)→Option R187
 |0,_,_,_,_,_=>none
 |k+1,x7,x15,x16,x5,x6=>B187l0 (GX187l0 k) (FX192 k) (FX232 k) x7 x15 x16 x5 x6
noncomputable abbrev FX187 (k:Nat) (x0:ByteArray) (x1:ByteArray):Option R187:=B187 (GX187l0 k) (FX220 k) x0 x1
noncomputable abbrev FX141 (k:Nat) (x0:TI) (x1:TI):Option R141:=B141 (FX143 k) (FX187 k) (FX217 k) (FX218 k) x0 x1
noncomputable abbrev FX74 (k:Nat) (x0:TQ) (x1:TQ):Option R74:=B74 (FX141 k) (FX143 k) (FX144 k) (FX159 k) (FX160 k) x0 x1
noncomputable abbrev FX142 (k:Nat) (x0:TI):Option R142:=B142 (FX143 k) x0
noncomputable abbrev FX81 (k:Nat) (x0:TQ):Option R81:=B81 (FX142 k) x0
noncomputable abbrev FX75 (k:Nat) (x0:TQ) (x1:TQ):Option R75:=B75 (FX74 k) (FX81 k) x0 x1
noncomputable abbrev FX70 (k:Nat) (x0:TQ) (x1:TQ) (x2:TQ):Option R70:=B70 (FX75 k) (FX156 k) x0 x1 x2
noncomputable abbrev FX158 (k:Nat) (x0:TQ):Option R158:=B158 x0
noncomputable abbrev FX72 (k:Nat) (x0:TQ) (x1:TQ):Option R72:=B72 (FX158 k) x0 x1
noncomputable abbrev FX165 (k:Nat) (x0:TQ):Option R165:=B165 x0
noncomputable abbrev FX79 (k:Nat) (x0:TQ) (x1:TQ):Option R79:=B79 (FX156 k) (FX165 k) x0 x1
noncomputable abbrev FX73 (k:Nat) (x0:TQ):Option R73:=B73 (FX79 k) (FX122 k) x0
noncomputable abbrev FX15 (k:Nat) (x0:TQ) (x1:TQ) (x2:TQ):Option R15:=B15 (FX63 k) (FX64 k) (FX65 k) (FX66 k) (FX67 k) (FX68 k) (FX69 k) (FX70 k) (FX71 k) (FX72 k) (FX73 k) (FX74 k) (FX75 k) x0 x1 x2
noncomputable def GX161l0:Nat→Int→Int→(List Int)→(List Int)→(List Int)→Option R161
 |0,_,_,_,_,_=>none
 |k+1,x8,x9,x5,x6,x7=>B161l0 (GX161l0 k) (FX180 k) x8 x9 x5 x6 x7
noncomputable abbrev FX161 (k:Nat) (x0:ByteArray) (x1:ByteArray):Option R161:=B161 (GX161l0 k) (FX221 k) x0 x1
noncomputable abbrev FX162 (k:Nat) (x0:ByteArray) (x1:ByteArray):Option R162:=B162 x0 x1
noncomputable def GX163l0:Nat→Int→Int→(List Int)→(List Int)→Option R163
 |0,_,_,_,_=>none
 |k+1,x7,x8,x5,x6=>B163l0 (GX163l0 k) (FX180 k) x7 x8 x5 x6
noncomputable abbrev FX163 (k:Nat) (x0:ByteArray) (x1:ByteArray):Option R163:=B163 (GX163l0 k) (FX162 k) (FX221 k) x0 x1
noncomputable abbrev FX76 (k:Nat) (x0:TI) (x1:TI):Option R76:=B76 (FX148 k) (FX161 k) (FX162 k) (FX163 k) x0 x1
noncomputable abbrev FX16 (k:Nat) (x0:TQ) (x1:TQ):Option R16:=B16 (FX13 k) (FX60 k) (FX61 k) (FX62 k) (FX76 k) x0 x1
noncomputable abbrev FX164 (k:Nat) (x0:TI):Option R164:=B164 (FX148 k) x0
noncomputable abbrev FX77 (k:Nat) (x0:TQ):Option R77:=B77 (FX164 k) x0
noncomputable abbrev FX17 (k:Nat) (x0:TQ) (x1:TQ):Option R17:=B17 (FX16 k) (FX77 k) x0 x1
noncomputable def GX18l0:Nat→Int→Int→TQ→TQ→TQ→TQ→(List TQ)→Option R18
 |0,_,_,_,_,_,_,_=>none
 |k+1,x56,x57,x4,x5,x6,x7,x55=>B18l0 (GX18l0 k) (FX68 k) (FX69 k) (FX72 k) (FX73 k) (FX78 k) (FX79 k) (FX80 k) (FX81 k) x56 x57 x4 x5 x6 x7 x55
noncomputable abbrev FX18 (k:Nat) (x0:TQ) (x1:TQ) (x2:TQ):Option R18:=B18 (GX18l0 k) (FX63 k) (FX64 k) (FX65 k) (FX66 k) (FX67 k) (FX68 k) (FX69 k) (FX70 k) (FX73 k) (FX74 k) (FX75 k) x0 x1 x2
noncomputable abbrev FX55 (k:Nat) (x0:TI) (x1:TI):Option R55:=B55 (FX141 k) (FX142 k) x0 x1
noncomputable abbrev FX145 (k:Nat) (x0:ByteArray):Option R145:=B145 (FX220 k) x0
noncomputable abbrev FX58 (k:Nat) (x0:TI):Option R58:=B58 (FX145 k) x0
noncomputable def GX140l0:Nat→Int→Int→Option R140
 |0,_,_=>none
 |k+1,x0,x3=>B140l0 (GX140l0 k) x0 x3
noncomputable abbrev FX140 (k:Nat) (x0:Int):Option R140:=B140 (GX140l0 k) x0
end Go.Proofs.YtfllafbphddooaaGreatV
set_option maxRecDepth 10000
namespace Go.Proofs.YtfllafbphddooaaGreatV
open Go Go.RowKit YtfllafbphddooaaGreat YtfllafbphddooaaGreatE YtfllafbphddooaaGreatW.PrintWords YtfllafbphddooaaGreatW.PrintLast YtfllafbphddooaaGreatW.PrintMore
theorem EOK:EnvOk Tryz.prog E0:=⟨by kernel_rfl,by kernel_rfl,by kernel_rfl⟩
theorem HM:Tryz.prog.follows .mixedOrders=true:=Tryz.checked.mixed
section
variable {P:Program} {f:Nat}
theorem ct_three {k1 k2 k3:IntKind} {x y z:Int} {r:V} (h:∀w,CallSem P f #[.int k1 x, .int k2 y, .int k3 z] w fun v w'=>w'=w∧∀bl φ,RepV w bl φ r v):Ct P f [.a (.v (.it k1) x), .a (.v (.it k2) y), .a (.v (.it k3) z)] [] r []:=by
 refine⟨(fun q hq=>nomatch hq),fun w0 bl0 φ0 vs _ hm hr=>?_⟩
 cases hr with
 |cons h1 hr=>
  cases hr with
  |cons h2 hr=>
   cases hr with
   |cons h3 hr=>
    cases hr with
    |nil=>
     rw [rep_it.1 h1,rep_it.1 h2,rep_it.1 h3]
     exact(h w0).mono fun v w' ⟨e,hv⟩=>⟨φ0,by rw [e];exact Step.refl hm,by rw [e];exact hv _ _⟩
theorem sem_enter {fn:Func} {c:Code} (hf:P.funcs[f]?=some fn) (hname:(fn.name== "runtime.NumGoroutine")=false) (hb:fn.body=some c) {args:Array Value} {w:World} {Q:Value→World→Prop} (h:Calls P f args w fun e w'=>∃v,e= .returned v∧Q v w'):CallSem P f args w Q:=
 Or.inl ⟨by simp only [callFunc,Sem.run_bind,run_program,Result.andThen_ok,hf,hname,hb,Option.isNone_some,Bool.false_eq_true,if_false,Sem.run_pure],h⟩
end
theorem ok251 (k:Nat):FeOk Tryz.prog (fe251 (FX251 k)):=by
 rintro⟨⟨x,y,c,⟨⟩⟩,⟨⟩⟩ o h v hv
 replace h:All.bits_Add64.f x y c=some o:=h
 cases hv
 unfold All.bits_Add64.f at h
 by_cases hc:0≤x∧0≤y∧0≤c∧c≤1
 ·rw [if_pos hc]at h
  cases h
  refine ct_three fun w=>Or.inr ⟨_,w,?_,rfl,fun bl φ=>⟨_,rfl, .cons (rep_it.2 rfl) (.cons (rep_it.2 rfl) .nil)⟩⟩
  show(callFunc 251 #[.int .u64 x, .int .u64 y, .int .u64 c]).run _ w=_
  rw [run_callFunc_extern Tryz.func251 (by kernel_rfl) (by kernel_rfl) (by kernel_rfl) (by kernel_rfl),run_add64 x y c hc.1 hc.2.1 hc.2.2.1 hc.2.2.2]
  rfl
 ·rw [if_neg hc]at h;cases h
theorem sub64_at (x y c:Int) (hx:0≤x) (hy:0≤y) (hc0:0≤c) (hc:c≤1) (w:World):
  (callFunc 232 #[.int .u64 x, .int .u64 y, .int .u64 c]).run Tryz.prog w= .ok (.value (.tuple #[.int .u64 ((x-y-c)%18446744073709551616), .int .u64 (if x<y+c then 1 else 0)])) w∨¬y≤18446744073709551615:=by
 by_cases hym:y≤18446744073709551615
 ·refine Or.inl ?_
  obtain⟨X,rfl⟩:=Int.eq_ofNat_of_zero_le hx
  obtain⟨Y,rfl⟩:=Int.eq_ofNat_of_zero_le hy
  obtain⟨C,rfl⟩:=Int.eq_ofNat_of_zero_le hc0
  rw [run_callFunc_extern Tryz.func232 (by kernel_rfl) (by kernel_rfl) (by kernel_rfl) (by kernel_rfl),run_sub64 X Y C (by omega)]
  have e1:(((X+18446744073709551616-Y-C)%18446744073709551616:Nat):Int)=((X:Int)-Y-C)%18446744073709551616:=by omega
  have e2:((if X<Y+C then 1 else 0:Nat):Int)=if(X:Int)<Y+C then 1 else 0:=by split<;>split<;>omega
  rw [e1,e2]
  rfl
 ·exact Or.inr hym
theorem ok232 (k:Nat):FeOk Tryz.prog (fe232 (FX232 k)):=by
 rintro⟨⟨x,y,c,⟨⟩⟩,⟨⟩⟩ o h v hv
 replace h:All.bits_Sub64.f x y c=some o:=h
 cases hv
 unfold All.bits_Sub64.f at h
 split at h
 ·rename_i hc
  cases h
  refine ct_three fun w=>Or.inr ⟨_,w,?_,rfl,fun bl φ=>⟨_,rfl, .cons (rep_it.2 rfl) (.cons (rep_it.2 rfl) .nil)⟩⟩
  exact(sub64_at x y c hc.1 hc.2.1 hc.2.2.2.1 hc.2.2.2.2 w).resolve_right fun h=>h hc.2.2.1
 ·cases h
end Go.Proofs.YtfllafbphddooaaGreatV
namespace Go.Proofs.YtfllafbphddooaaGreatV
open Go Go.RowKit YtfllafbphddooaaGreat YtfllafbphddooaaGreatE YtfllafbphddooaaGreatW.PrintWords YtfllafbphddooaaGreatW.PrintLast YtfllafbphddooaaGreatW.PrintMore
end Go.Proofs.YtfllafbphddooaaGreatV
set_option maxRecDepth 100000
namespace Go.Proofs.YtfllafbphddooaaGreatV
open Go Go.RowKit YtfllafbphddooaaGreat YtfllafbphddooaaGreatE YtfllafbphddooaaGreatW.PrintWords YtfllafbphddooaaGreatW.PrintLast YtfllafbphddooaaGreatW.PrintMore
theorem b49 (k:Nat) (x0:Int):LeO (FX49 k x0) (B49 x0):=LeO.refl _
theorem ok49 (k:Nat):FeOk Tryz.prog (fe49 (FX49 k)):=
 fe_ok EOK HM (es:=fun k=>fes49) (fun k=>fz) (N:=9) (an:=an49) (c:=cd49) (rms:=rm49) (ask:=ask49) (rsk:=rsk49) (enc:=enc49) (dec:=dec49) (tbl:=[]) (fun s=>rfl) Tryz.func49 (by kernel_rfl) (by kernel_rfl) (by kernel_rfl) (fun k=>les49)
  (fz) (fun k s0=> .nil)
  (F:=fun k s=>FX49 k s.1.1) (fun k s r h=>(e49 s).trans (b49 k s.1.1 r h)) k
theorem b136 (k:Nat) (x0:Int):LeO (FX136 k x0) (B136 x0):=LeO.refl _
theorem ok136 (k:Nat):FeOk Tryz.prog (fe136 (FX136 k)):=
 fe_ok EOK HM (es:=fun k=>fes136) (fun k=>fz) (N:=7) (an:=an136) (c:=cd136) (rms:=rm136) (ask:=ask136) (rsk:=rsk136) (enc:=enc136) (dec:=dec136) (tbl:=[]) (fun s=>rfl) Tryz.func136 (by kernel_rfl) (by kernel_rfl) (by kernel_rfl) (fun k=>les136)
  (fz) (fun k s0=> .nil)
  (F:=fun k s=>FX136 k s.1.1) (fun k s r h=>(e136 s).trans (b136 k s.1.1 r h)) k
theorem b50l0 (k:Nat) (x4:Int) (x5:Int) (x6:Int):LeO (GX50l0 (k+1) x4 x5 x6) (B50l0 (GX50l1 k) (FX136 k) x4 x5 x6):=by rw [GX50l0];exact LeO.refl _
theorem b50l1 (k:Nat) (x4:Int) (x5:Int) (x6:Int):LeO (GX50l1 (k+1) x4 x5 x6) (B50l1 (GX50l0 k) (GX50l1 k) x4 x5 x6):=by rw [GX50l1];exact LeO.refl _
theorem b50 (k:Nat) (x0:Int):LeO (FX50 k x0) (B50 (GX50l0 k) x0):=LeO.refl _
theorem ok50 (k:Nat):FeOk Tryz.prog (fe50 (FX50 k)):=
 fe_ok EOK HM (es:=fun k=>fes50 (FX136 k)) (fun k=>fc ⟨ok136 k,fz⟩) (N:=32) (an:=an50) (c:=cd50) (rms:=rm50) (ask:=ask50) (rsk:=rsk50) (enc:=enc50) (dec:=dec50) (tbl:=[p50.getD 0 ⟨0,[], .skip⟩,p50.getD 1 ⟨0,[], .skip⟩]) (fun s=>rfl) Tryz.func50 (by kernel_rfl) (by kernel_rfl) (by kernel_rfl) (fun k=>les50 (GX50l0 k) (GX50l1 k))
  (fc ⟨fun s=>rfl,fc ⟨fun s=>rfl,fz⟩⟩) (fun k s0=> .cons (by kernel_rfl) (by kernel_rfl) (fun s r h=>(e50l0 (GX50l0 k) (GX50l1 k) (FX136 k) s0 s).trans (b50l0 k s.1.1 s.1.2.1 s.1.2.2.1 r h)) (.cons (by kernel_rfl) (by kernel_rfl) (fun s r h=>(e50l1 (GX50l0 k) (GX50l1 k) (FX136 k) s0 s).trans (b50l1 k s.1.1 s.1.2.1 s.1.2.2.1 r h)) (.nil)))
  (F:=fun k s=>FX50 k s.1.1) (fun k s r h=>(e50 (GX50l0 k) (GX50l1 k) (FX136 k) s).trans (b50 k s.1.1 r h)) k
theorem b51 (k:Nat) (x0:Int) (x1:Int):LeO (FX51 k x0 x1) (B51 x0 x1):=LeO.refl _
theorem ok51 (k:Nat):FeOk Tryz.prog (fe51 (FX51 k)):=
 fe_ok EOK HM (es:=fun k=>fes51) (fun k=>fz) (N:=12) (an:=an51) (c:=cd51) (rms:=rm51) (ask:=ask51) (rsk:=rsk51) (enc:=enc51) (dec:=dec51) (tbl:=[]) (fun s=>rfl) Tryz.func51 (by kernel_rfl) (by kernel_rfl) (by kernel_rfl) (fun k=>les51)
  (fz) (fun k s0=> .nil)
  (F:=fun k s=>FX51 k s.1.1 s.1.2.1) (fun k s r h=>(e51 s).trans (b51 k s.1.1 s.1.2.1 r h)) k
theorem b7 (k:Nat) (x0:Int):LeO (FX7 k x0) (B7 (FX49 k) (FX50 k) (FX51 k) x0):=LeO.refl _
theorem ok7 (k:Nat):FeOk Tryz.prog (fe7 (FX7 k)):=
 fe_ok EOK HM (es:=fun k=>fes7 (FX49 k) (FX50 k) (FX51 k)) (fun k=>fc ⟨ok49 k,fc ⟨ok50 k,fc ⟨ok51 k,fz⟩⟩⟩) (N:=44) (an:=an7) (c:=cd7) (rms:=rm7) (ask:=ask7) (rsk:=rsk7) (enc:=enc7) (dec:=dec7) (tbl:=[]) (fun s=>rfl) Tryz.func7 (by kernel_rfl) (by kernel_rfl) (by kernel_rfl) (fun k=>les7)
  (fz) (fun k s0=> .nil)
  (F:=fun k s=>FX7 k s.1.1) (fun k s r h=>(e7 (FX49 k) (FX50 k) (FX51 k) s).trans (b7 k s.1.1 r h)) k
theorem b40l0 (k:Nat) (x0:(List TQ)) (x1:(List TQ)) (x12:Int) (x13:Int):LeO (GX40l0 (k+1) x0 x1 x12 x13) (B40l0 (GX40l0 k) x0 x1 x12 x13):=by rw [GX40l0];exact LeO.refl _
theorem b40 (k:Nat) (x0:(List TQ)) (x1:(List TQ)):LeO (FX40 k x0 x1) (B40 (GX40l0 k) x0 x1):=LeO.refl _
theorem ok40 (k:Nat):FeOk Tryz.prog (fe40 (FX40 k)):=
 fe_ok EOK HM (es:=fun k=>fes40) (fun k=>fz) (N:=26) (an:=an40) (c:=cd40) (rms:=rm40) (ask:=ask40) (rsk:=rsk40) (enc:=enc40) (dec:=dec40) (tbl:=[p40.getD 0 ⟨0,[], .skip⟩]) (fun s=>rfl) Tryz.func40 (by kernel_rfl) (by kernel_rfl) (by kernel_rfl) (fun k=>les40 (GX40l0 k))
  (fc ⟨fun s=>rfl,fz⟩) (fun k s0=> .cons (by kernel_rfl) (by kernel_rfl) (fun s r h=>(e40l0 (GX40l0 k) s0 s).trans (b40l0 k s.1.1 s.1.2.1 s.1.2.2.1 s.1.2.2.2.1 r h)) (.nil))
  (F:=fun k s=>FX40 k s.1.1 s.1.2.1) (fun k s r h=>(e40 (GX40l0 k) s).trans (b40 k s.1.1 s.1.2.1 r h)) k
theorem b200l0 (k:Nat) (x0:Int) (x1:Int):LeO (GX200l0 (k+1) x0 x1) (B200l0 (GX200l0 k) x0 x1):=by rw [GX200l0];exact LeO.refl _
theorem b200 (k:Nat) (x0:Int) (x1:Int):LeO (FX200 k x0 x1) (B200 (GX200l0 k) x0 x1):=LeO.refl _
theorem ok200 (k:Nat):FeOk Tryz.prog (fe200 (FX200 k)):=
 fe_ok EOK HM (es:=fun k=>fes200) (fun k=>fz) (N:=20) (an:=an200) (c:=cd200) (rms:=rm200) (ask:=ask200) (rsk:=rsk200) (enc:=enc200) (dec:=dec200) (tbl:=[p200.getD 0 ⟨0,[], .skip⟩]) (fun s=>rfl) Tryz.func200 (by kernel_rfl) (by kernel_rfl) (by kernel_rfl) (fun k=>les200 (GX200l0 k))
  (fc ⟨fun s=>rfl,fz⟩) (fun k s0=> .cons (by kernel_rfl) (by kernel_rfl) (fun s r h=>(e200l0 (GX200l0 k) s0 s).trans (b200l0 k s.1.1 s.1.2.1 r h)) (.nil))
  (F:=fun k s=>FX200 k s.1.1 s.1.2.1) (fun k s r h=>(e200 (GX200l0 k) s).trans (b200 k s.1.1 s.1.2.1 r h)) k
theorem b197l0 (k:Nat) (x0:Int) (x5:Int) (x6:Int) (x3:(List Int)):LeO (GX197l0 (k+1) x0 x5 x6 x3) (B197l0 (GX197l0 k) (FX200 k) x0 x5 x6 x3):=by rw [GX197l0];exact LeO.refl _
theorem b197 (k:Nat) (x0:Int):LeO (FX197 k x0) (B197 (GX197l0 k) x0):=LeO.refl _
theorem ok197 (k:Nat):FeOk Tryz.prog (fe197 (FX197 k)):=
 fe_ok EOK HM (es:=fun k=>fes197 (FX200 k)) (fun k=>fc ⟨ok200 k,fz⟩) (N:=19) (an:=an197) (c:=cd197) (rms:=rm197) (ask:=ask197) (rsk:=rsk197) (enc:=enc197) (dec:=dec197) (tbl:=[p197.getD 0 ⟨0,[], .skip⟩]) (fun s=>rfl) Tryz.func197 (by kernel_rfl) (by kernel_rfl) (by kernel_rfl) (fun k=>les197 (GX197l0 k))
  (fc ⟨fun s=>rfl,fz⟩) (fun k s0=> .cons (by kernel_rfl) (by kernel_rfl) (fun s r h=>(e197l0 (GX197l0 k) (FX200 k) s0 s).trans (b197l0 k s.1.1 s.1.2.1 s.1.2.2.1 s.2.1 r h)) (.nil))
  (F:=fun k s=>FX197 k s.1.1) (fun k s r h=>(e197 (GX197l0 k) (FX200 k) s).trans (b197 k s.1.1 r h)) k
theorem b115l0 (k:Nat) (x0:Int) (x1:(List Int)) (x9:(List Int)) (x10:Int) (x11:Int):LeO (GX115l0 (k+1) x0 x1 x9 x10 x11) (B115l0 (GX115l0 k) (GX115l1 k) x0 x1 x9 x10 x11):=by rw [GX115l0];exact LeO.refl _
theorem b115l1 (k:Nat) (x0:Int) (x22:(List Int)) (x23:Int) (x24:Int):LeO (GX115l1 (k+1) x0 x22 x23 x24) (B115l1 (GX115l1 k) (FX197 k) x0 x22 x23 x24):=by rw [GX115l1];exact LeO.refl _
theorem b115 (k:Nat) (x0:Int) (x1:(List Int)):LeO (FX115 k x0 x1) (B115 (GX115l0 k) x0 x1):=LeO.refl _
theorem ok115 (k:Nat):FeOk Tryz.prog (fe115 (FX115 k)):=
 fe_ok EOK HM (es:=fun k=>fes115 (FX197 k)) (fun k=>fc ⟨ok197 k,fz⟩) (N:=34) (an:=an115) (c:=cd115) (rms:=rm115) (ask:=ask115) (rsk:=rsk115) (enc:=enc115) (dec:=dec115) (tbl:=[p115.getD 0 ⟨0,[], .skip⟩,p115.getD 1 ⟨0,[], .skip⟩]) (fun s=>rfl) Tryz.func115 (by kernel_rfl) (by kernel_rfl) (by kernel_rfl) (fun k=>les115 (GX115l0 k) (GX115l1 k))
  (fc ⟨fun s=>rfl,fc ⟨fun s=>rfl,fz⟩⟩) (fun k s0=> .cons (by kernel_rfl) (by kernel_rfl) (fun s r h=>(e115l0 (GX115l0 k) (GX115l1 k) (FX197 k) s0 s).trans (b115l0 k s.1.1 s.1.2.1 s.1.2.2.1 s.1.2.2.2.1 s.1.2.2.2.2.1 r h)) (.cons (by kernel_rfl) (by kernel_rfl) (fun s r h=>(e115l1 (GX115l0 k) (GX115l1 k) (FX197 k) s0 s).trans (b115l1 k s.1.1 s.1.2.1 s.1.2.2.1 s.1.2.2.2.1 r h)) (.nil)))
  (F:=fun k s=>FX115 k s.1.1 s.1.2.1) (fun k s r h=>(e115 (GX115l0 k) (GX115l1 k) (FX197 k) s).trans (b115 k s.1.1 s.1.2.1 r h)) k
theorem b234vl0 (k:Nat) (x0:(List Int)) (x3:Int):LeO (GX234vl0 (k+1) x0 x3) (B234vl0 (GX234vl0 k) x0 x3):=by rw [GX234vl0];exact LeO.refl _
theorem b234v (k:Nat) (x0:(List Int)):LeO (FX234v k x0) (B234v (GX234vl0 k) x0):=LeO.refl _
theorem ok234v (k:Nat):FeOk Tryz.prog (fe234v (FX234v k)):=
 fe_ok EOK HM (es:=fun k=>fes234v) (fun k=>fz) (N:=21) (an:=an234v) (c:=cd234v) (rms:=rm234v) (ask:=ask234v) (rsk:=rsk234v) (enc:=enc234v) (dec:=dec234v) (tbl:=[p234v.getD 0 ⟨0,[], .skip⟩]) (fun s=>rfl) Tryz.func234 (by kernel_rfl) (by kernel_rfl) (by kernel_rfl) (fun k=>les234v (GX234vl0 k))
  (fc ⟨fun s=>rfl,fz⟩) (fun k s0=> .cons (by kernel_rfl) (by kernel_rfl) (fun s r h=>(e234vl0 (GX234vl0 k) s0 s).trans (b234vl0 k s.1.1 s.1.2.1 r h)) (.nil))
  (F:=fun k s=>FX234v k s.1.1) (fun k s r h=>(e234v (GX234vl0 k) s).trans (b234v k s.1.1 r h)) k
theorem b192l0 (k:Nat) (x17:(List Int)) (x18:Int) (x19:Int) (x3:(List Int)):LeO (GX192l0 (k+1) x17 x18 x19 x3) (B192l0 (GX192l1 k) (GX192l2 k) x17 x18 x19 x3):=by rw [GX192l0];exact LeO.refl _
theorem b192l1 (k:Nat) (x4:Int) (x5:Int) (x17:(List Int)) (x18:Int) (x19:Int) (x24:Int) (x3:(List Int)):LeO (GX192l1 (k+1) x4 x5 x17 x18 x19 x24 x3) (B192l1 (GX192l0 k) (GX192l1 k) x4 x5 x17 x18 x19 x24 x3):=by rw [GX192l1];exact LeO.refl _
theorem b192l2 (k:Nat) (x7:Int) (x3:(List Int)):LeO (GX192l2 (k+1) x7 x3) (B192l2 (GX192l2 k) x7 x3):=by rw [GX192l2];exact LeO.refl _
theorem b192 (k:Nat) (x0:(List Int)):LeO (FX192 k x0) (B192 (GX192l0 k) (FX234v k) x0):=LeO.refl _
theorem ok192 (k:Nat):FeOk Tryz.prog (fe192 (FX192 k)):=
 fe_ok EOK HM (es:=fun k=>fes192 (FX234v k)) (fun k=>fc ⟨ok234v k,fz⟩) (N:=55) (an:=an192) (c:=cd192) (rms:=rm192) (ask:=ask192) (rsk:=rsk192) (enc:=enc192) (dec:=dec192) (tbl:=[p192.getD 0 ⟨0,[], .skip⟩,p192.getD 1 ⟨0,[], .skip⟩,p192.getD 2 ⟨0,[], .skip⟩]) (fun s=>rfl) Tryz.func192 (by kernel_rfl) (by kernel_rfl) (by kernel_rfl) (fun k=>les192 (GX192l0 k) (GX192l1 k) (GX192l2 k))
  (fc ⟨fun s=>rfl,fc ⟨fun s=>rfl,fc ⟨fun s=>rfl,fz⟩⟩⟩) (fun k s0=> .cons (by kernel_rfl) (by kernel_rfl) (fun s r h=>(e192l0 (GX192l0 k) (GX192l1 k) (GX192l2 k) (FX234v k) s0 s).trans (b192l0 k s.1.1 s.1.2.1 s.1.2.2.1 s.2.1 r h)) (.cons (by kernel_rfl) (by kernel_rfl) (fun s r h=>(e192l1 (GX192l0 k) (GX192l1 k) (GX192l2 k) (FX234v k) s0 s).trans (b192l1 k s.1.1 s.1.2.1 s.1.2.2.1 s.1.2.2.2.1 s.1.2.2.2.2.1 s.1.2.2.2.2.2.1 s.2.1 r h)) (.cons (by kernel_rfl) (by kernel_rfl) (fun s r h=>(e192l2 (GX192l0 k) (GX192l1 k) (GX192l2 k) (FX234v k) s0 s).trans (b192l2 k s.1.1 s.2.1 r h)) (.nil))))
  (F:=fun k s=>FX192 k s.1.1) (fun k s r h=>(e192 (GX192l0 k) (GX192l1 k) (GX192l2 k) (FX234v k) s).trans (b192 k s.1.1 r h)) k
theorem b108 (k:Nat) (x0:Int):LeO (FX108 k x0) (B108 (FX192 k) x0):=LeO.refl _
theorem ok108 (k:Nat):FeOk Tryz.prog (fe108 (FX108 k)):=
 fe_ok EOK HM (es:=fun k=>fes108 (FX192 k)) (fun k=>fc ⟨ok192 k,fz⟩) (N:=6) (an:=an108) (c:=cd108) (rms:=rm108) (ask:=ask108) (rsk:=rsk108) (enc:=enc108) (dec:=dec108) (tbl:=[]) (fun s=>rfl) Tryz.func108 (by kernel_rfl) (by kernel_rfl) (by kernel_rfl) (fun k=>les108)
  (fz) (fun k s0=> .nil)
  (F:=fun k s=>FX108 k s.1.1) (fun k s r h=>(e108 (FX192 k) s).trans (b108 k s.1.1 r h)) k
theorem b57 (k:Nat) (x0:Int):LeO (FX57 k x0) (B57 (FX108 k) x0):=LeO.refl _
theorem ok57 (k:Nat):FeOk Tryz.prog (fe57 (FX57 k)):=
 fe_ok EOK HM (es:=fun k=>fes57 (FX108 k)) (fun k=>fc ⟨ok108 k,fz⟩) (N:=14) (an:=an57) (c:=cd57) (rms:=rm57) (ask:=ask57) (rsk:=rsk57) (enc:=enc57) (dec:=dec57) (tbl:=[]) (fun s=>rfl) Tryz.func57 (by kernel_rfl) (by kernel_rfl) (by kernel_rfl) (fun k=>les57)
  (fz) (fun k s0=> .nil)
  (F:=fun k s=>FX57 k s.1.1) (fun k s r h=>(e57 (FX108 k) s).trans (b57 k s.1.1 r h)) k
theorem b159 (k:Nat) (x0:TI):LeO (FX159 k x0) (B159 x0):=LeO.refl _
theorem ok159 (k:Nat):FeOk Tryz.prog (fe159 (FX159 k)):=
 fe_ok EOK HM (es:=fun k=>fes159) (fun k=>fz) (N:=5) (an:=an159) (c:=cd159) (rms:=rm159) (ask:=ask159) (rsk:=rsk159) (enc:=enc159) (dec:=dec159) (tbl:=[]) (fun s=>rfl) Tryz.func159 (by kernel_rfl) (by kernel_rfl) (by kernel_rfl) (fun k=>les159)
  (fz) (fun k s0=> .nil)
  (F:=fun k s=>FX159 k s.1.1) (fun k s r h=>(e159 s).trans (b159 k s.1.1 r h)) k
theorem b122 (k:Nat) (x0:Int):LeO (FX122 k x0) (B122 (FX57 k) (FX159 k) x0):=LeO.refl _
theorem ok122 (k:Nat):FeOk Tryz.prog (fe122 (FX122 k)):=
 fe_ok EOK HM (es:=fun k=>fes122 (FX57 k) (FX159 k)) (fun k=>fc ⟨ok57 k,fc ⟨ok159 k,fz⟩⟩) (N:=6) (an:=an122) (c:=cd122) (rms:=rm122) (ask:=ask122) (rsk:=rsk122) (enc:=enc122) (dec:=dec122) (tbl:=[]) (fun s=>rfl) Tryz.func122 (by kernel_rfl) (by kernel_rfl) (by kernel_rfl) (fun k=>les122)
  (fz) (fun k s0=> .nil)
  (F:=fun k s=>FX122 k s.1.1) (fun k s r h=>(e122 (FX57 k) (FX159 k) s).trans (b122 k s.1.1 r h)) k
theorem b78 (k:Nat) (x0:TQ):LeO (FX78 k x0) (B78 x0):=LeO.refl _
theorem ok78 (k:Nat):FeOk Tryz.prog (fe78 (FX78 k)):=
 fe_ok EOK HM (es:=fun k=>fes78) (fun k=>fz) (N:=7) (an:=an78) (c:=cd78) (rms:=rm78) (ask:=ask78) (rsk:=rsk78) (enc:=enc78) (dec:=dec78) (tbl:=[]) (fun s=>rfl) Tryz.func78 (by kernel_rfl) (by kernel_rfl) (by kernel_rfl) (fun k=>les78)
  (fz) (fun k s0=> .nil)
  (F:=fun k s=>FX78 k s.1.1) (fun k s r h=>(e78 s).trans (b78 k s.1.1 r h)) k
theorem b123l0 (k:Nat) (x0:(List TQ)) (x3:Int):LeO (GX123l0 (k+1) x0 x3) (B123l0 (GX123l0 k) (FX78 k) x0 x3):=by rw [GX123l0];exact LeO.refl _
theorem b123 (k:Nat) (x0:(List TQ)):LeO (FX123 k x0) (B123 (GX123l0 k) x0):=LeO.refl _
theorem ok123 (k:Nat):FeOk Tryz.prog (fe123 (FX123 k)):=
 fe_ok EOK HM (es:=fun k=>fes123 (FX78 k)) (fun k=>fc ⟨ok78 k,fz⟩) (N:=22) (an:=an123) (c:=cd123) (rms:=rm123) (ask:=ask123) (rsk:=rsk123) (enc:=enc123) (dec:=dec123) (tbl:=[p123.getD 0 ⟨0,[], .skip⟩]) (fun s=>rfl) Tryz.func123 (by kernel_rfl) (by kernel_rfl) (by kernel_rfl) (fun k=>les123 (GX123l0 k))
  (fc ⟨fun s=>rfl,fz⟩) (fun k s0=> .cons (by kernel_rfl) (by kernel_rfl) (fun s r h=>(e123l0 (GX123l0 k) (FX78 k) s0 s).trans (b123l0 k s.1.1 s.1.2.1 r h)) (.nil))
  (F:=fun k s=>FX123 k s.1.1) (fun k s r h=>(e123 (GX123l0 k) (FX78 k) s).trans (b123 k s.1.1 r h)) k
theorem b201l0 (k:Nat) (x9:(List Int)) (x10:Int) (x11:Int) (x3:(List TQ)):LeO (GX201l0 (k+1) x9 x10 x11 x3) (B201l0 (GX201l0 k) (FX122 k) (FX123 k) x9 x10 x11 x3):=by rw [GX201l0];exact LeO.refl _
theorem b201 (k:Nat) (x0:(List Int)):LeO (FX201 k x0) (B201 (GX201l0 k) x0):=LeO.refl _
theorem ok201 (k:Nat):FeOk Tryz.prog (fe201 (FX201 k)):=
 fe_ok EOK HM (es:=fun k=>fes201 (FX122 k) (FX123 k)) (fun k=>fc ⟨ok122 k,fc ⟨ok123 k,fz⟩⟩) (N:=24) (an:=an201) (c:=cd201) (rms:=rm201) (ask:=ask201) (rsk:=rsk201) (enc:=enc201) (dec:=dec201) (tbl:=[p201.getD 0 ⟨0,[], .skip⟩]) (fun s=>rfl) Tryz.func201 (by kernel_rfl) (by kernel_rfl) (by kernel_rfl) (fun k=>les201 (GX201l0 k))
  (fc ⟨fun s=>rfl,fz⟩) (fun k s0=> .cons (by kernel_rfl) (by kernel_rfl) (fun s r h=>(e201l0 (GX201l0 k) (FX122 k) (FX123 k) s0 s).trans (b201l0 k s.1.1 s.1.2.1 s.1.2.2.1 s.2.1 r h)) (.nil))
  (F:=fun k s=>FX201 k s.1.1) (fun k s r h=>(e201 (GX201l0 k) (FX122 k) (FX123 k) s).trans (b201 k s.1.1 r h)) k
theorem b268n (k:Nat) (x0:(List Int)):LeO (FX268n k x0) (B268n x0):=LeO.refl _
theorem ok268n (k:Nat):FeOk Tryz.prog (fe268n (FX268n k)):=
 fe_ok EOK HM (es:=fun k=>fes268n) (fun k=>fz) (N:=8) (an:=an268n) (c:=cd268n) (rms:=rm268n) (ask:=ask268n) (rsk:=rsk268n) (enc:=enc268n) (dec:=dec268n) (tbl:=[]) (fun s=>rfl) Tryz.func268 (by kernel_rfl) (by kernel_rfl) (by kernel_rfl) (fun k=>les268n)
  (fz) (fun k s0=> .nil)
  (F:=fun k s=>FX268n k s.1.1) (fun k s r h=>(e268n s).trans (b268n k s.1.1 r h)) k
theorem b268m (k:Nat) (x0:(List Int)):LeO (FX268m k x0) (B268m x0):=LeO.refl _
theorem ok268m (k:Nat):FeOk Tryz.prog (fe268m (FX268m k)):=
 fe_ok EOK HM (es:=fun k=>fes268m) (fun k=>fz) (N:=8) (an:=an268m) (c:=cd268m) (rms:=rm268m) (ask:=ask268m) (rsk:=rsk268m) (enc:=enc268m) (dec:=dec268m) (tbl:=[]) (fun s=>rfl) Tryz.func268 (by kernel_rfl) (by kernel_rfl) (by kernel_rfl) (fun k=>les268m)
  (fz) (fun k s0=> .nil)
  (F:=fun k s=>FX268m k s.1.1) (fun k s r h=>(e268m s).trans (b268m k s.1.1 r h)) k
theorem ok268 (k:Nat):FeOk Tryz.prog (fe268 (FX268 k)):=fe_nil (ok268n k) (ok268m k) (fun s r h=>⟨h,fun hx=>by
 have e:B268m []=some []:=by kernel_rfl
 have h':B268m s.1.1=some r:=h
 rw [hx,e]at h'
 cases h'
 rfl⟩)
theorem b240l0 (k:Nat) (x0:(List Int)) (x13:(List (List Int))) (x14:Int) (x15:Int):LeO (GX240l0 (k+1) x0 x13 x14 x15) (B240l0 (GX240l1 k) (FX268 k) x0 x13 x14 x15):=by rw [GX240l0];exact LeO.refl _
theorem b240l1 (k:Nat) (x6:(List Int)) (x8:Int) (x10:Int) (x13:(List (List Int))) (x14:Int) (x15:Int) (x7:(List Int)) (x9:(List Int)):LeO (GX240l1 (k+1) x6 x8 x10 x13 x14 x15 x7 x9) (B240l1 (GX240l0 k) (GX240l2 k) x6 x8 x10 x13 x14 x15 x7 x9):=by rw [GX240l1];exact LeO.refl _
theorem b240l2 (k:Nat) (x6:(List Int)) (x8:Int) (x10:Int) (x13:(List (List Int))) (x14:Int) (x15:Int) (x45:(List Int)) (x46:Int) (x47:Int) (x7:(List Int)) (x9:(List Int)):LeO (GX240l2 (k+1) x6 x8 x10 x13 x14 x15 x45 x46 x47 x7 x9) (B240l2 (GX240l1 k) (GX240l2 k) x6 x8 x10 x13 x14 x15 x45 x46 x47 x7 x9):=by rw [GX240l2];exact LeO.refl _
theorem b240 (k:Nat) (x0:(List Int)) (x1:(List (List Int))):LeO (FX240 k x0 x1) (B240 (GX240l0 k) x0 x1):=LeO.refl _
theorem ok240 (k:Nat):FeOk Tryz.prog (fe240 (FX240 k)):=
 fe_ok EOK HM (es:=fun k=>fes240 (FX268 k)) (fun k=>fc ⟨ok268 k,fz⟩) (N:=70) (an:=an240) (c:=cd240) (rms:=rm240) (ask:=ask240) (rsk:=rsk240) (enc:=enc240) (dec:=dec240) (tbl:=[p240.getD 0 ⟨0,[], .skip⟩,p240.getD 1 ⟨0,[], .skip⟩,p240.getD 2 ⟨0,[], .skip⟩]) (fun s=>rfl) Tryz.func240 (by kernel_rfl) (by kernel_rfl) (by kernel_rfl) (fun k=>les240 (GX240l0 k) (GX240l1 k) (GX240l2 k))
  (fc ⟨fun s=>rfl,fc ⟨fun s=>rfl,fc ⟨fun s=>rfl,fz⟩⟩⟩) (fun k s0=> .cons (by kernel_rfl) (by kernel_rfl) (fun s r h=>(e240l0 (GX240l0 k) (GX240l1 k) (GX240l2 k) (FX268 k) s0 s).trans (b240l0 k s.1.1 s.1.2.1 s.1.2.2.1 s.1.2.2.2.1 r h)) (.cons (by kernel_rfl) (by kernel_rfl) (fun s r h=>(e240l1 (GX240l0 k) (GX240l1 k) (GX240l2 k) (FX268 k) s0 s).trans (b240l1 k s.1.1 s.1.2.1 s.1.2.2.1 s.1.2.2.2.1 s.1.2.2.2.2.1 s.1.2.2.2.2.2.1 s.2.1 s.2.2.1 r h)) (.cons (by kernel_rfl) (by kernel_rfl) (fun s r h=>(e240l2 (GX240l0 k) (GX240l1 k) (GX240l2 k) (FX268 k) s0 s).trans (b240l2 k s.1.1 s.1.2.1 s.1.2.2.1 s.1.2.2.2.1 s.1.2.2.2.2.1 s.1.2.2.2.2.2.1 s.1.2.2.2.2.2.2.1 s.1.2.2.2.2.2.2.2.1 s.1.2.2.2.2.2.2.2.2.1 s.2.1 s.2.2.1 r h)) (.nil))))
  (F:=fun k s=>FX240 k s.1.1 s.1.2.1) (fun k s r h=>(e240 (GX240l0 k) (GX240l1 k) (GX240l2 k) (FX268 k) s).trans (b240 k s.1.1 s.1.2.1 r h)) k
theorem okZ202 (k:Nat):FeOk Tryz.prog (fe202 (fun _=>none)):=fun s o h=>nomatch h
theorem b202Al0 (k:Nat) (x0:Int) (x5:Int) (x3:(List Int)) (x4:(List (List Int))):LeO (GX202Al0 (k+1) x0 x5 x3 x4) (B202l0 (GX202Al0 k) (fun _=>none) (FX240 k) x0 x5 x3 x4):=by rw [GX202Al0];exact LeO.refl _
theorem b202A (k:Nat) (x0:Int):LeO (FX202A k x0) (B202 (GX202Al0 k) x0):=LeO.refl _
theorem ok202A (k:Nat):FeOk Tryz.prog (fe202 (FX202A k)):=
 fe_ok EOK HM (es:=fun k=>fes202 (fun _=>none) (FX240 k)) (fun k=>fc ⟨okZ202 k,fc ⟨ok240 k,fz⟩⟩) (N:=31) (an:=an202) (c:=cd202) (rms:=rm202) (ask:=ask202) (rsk:=rsk202) (enc:=enc202) (dec:=dec202) (tbl:=[p202.getD 0 ⟨0,[], .skip⟩]) (fun s=>rfl) Tryz.func202 (by kernel_rfl) (by kernel_rfl) (by kernel_rfl) (fun k=>les202 (GX202Al0 k))
  (fc ⟨fun s=>rfl,fz⟩) (fun k s0=> .cons (by kernel_rfl) (by kernel_rfl) (fun s r h=>(e202l0 (GX202Al0 k) (fun _=>none) (FX240 k) s0 s).trans (b202Al0 k s.1.1 s.1.2.1 s.2.1 s.2.2.1 r h)) (.nil))
  (F:=fun k s=>FX202A k s.1.1) (fun k s r h=>(e202 (GX202Al0 k) (fun _=>none) (FX240 k) s).trans (b202A k s.1.1 r h)) k
theorem b202Bl0 (k:Nat) (x0:Int) (x5:Int) (x3:(List Int)) (x4:(List (List Int))):LeO (GX202Bl0 (k+1) x0 x5 x3 x4) (B202l0 (GX202Bl0 k) (FX202A k) (FX240 k) x0 x5 x3 x4):=by rw [GX202Bl0];exact LeO.refl _
theorem b202B (k:Nat) (x0:Int):LeO (FX202B k x0) (B202 (GX202Bl0 k) x0):=LeO.refl _
theorem ok202B (k:Nat):FeOk Tryz.prog (fe202 (FX202B k)):=
 fe_ok EOK HM (es:=fun k=>fes202 (FX202A k) (FX240 k)) (fun k=>fc ⟨ok202A k,fc ⟨ok240 k,fz⟩⟩) (N:=31) (an:=an202) (c:=cd202) (rms:=rm202) (ask:=ask202) (rsk:=rsk202) (enc:=enc202) (dec:=dec202) (tbl:=[p202.getD 0 ⟨0,[], .skip⟩]) (fun s=>rfl) Tryz.func202 (by kernel_rfl) (by kernel_rfl) (by kernel_rfl) (fun k=>les202 (GX202Bl0 k))
  (fc ⟨fun s=>rfl,fz⟩) (fun k s0=> .cons (by kernel_rfl) (by kernel_rfl) (fun s r h=>(e202l0 (GX202Bl0 k) (FX202A k) (FX240 k) s0 s).trans (b202Bl0 k s.1.1 s.1.2.1 s.2.1 s.2.2.1 r h)) (.nil))
  (F:=fun k s=>FX202B k s.1.1) (fun k s r h=>(e202 (GX202Bl0 k) (FX202A k) (FX240 k) s).trans (b202B k s.1.1 r h)) k
theorem b202l0 (k:Nat) (x0:Int) (x5:Int) (x3:(List Int)) (x4:(List (List Int))):LeO (GX202l0 (k+1) x0 x5 x3 x4) (B202l0 (GX202l0 k) (FX202B k) (FX240 k) x0 x5 x3 x4):=by rw [GX202l0];exact LeO.refl _
theorem b202 (k:Nat) (x0:Int):LeO (FX202 k x0) (B202 (GX202l0 k) x0):=LeO.refl _
theorem ok202 (k:Nat):FeOk Tryz.prog (fe202 (FX202 k)):=
 fe_ok EOK HM (es:=fun k=>fes202 (FX202B k) (FX240 k)) (fun k=>fc ⟨ok202B k,fc ⟨ok240 k,fz⟩⟩) (N:=31) (an:=an202) (c:=cd202) (rms:=rm202) (ask:=ask202) (rsk:=rsk202) (enc:=enc202) (dec:=dec202) (tbl:=[p202.getD 0 ⟨0,[], .skip⟩]) (fun s=>rfl) Tryz.func202 (by kernel_rfl) (by kernel_rfl) (by kernel_rfl) (fun k=>les202 (GX202l0 k))
  (fc ⟨fun s=>rfl,fz⟩) (fun k s0=> .cons (by kernel_rfl) (by kernel_rfl) (fun s r h=>(e202l0 (GX202l0 k) (FX202B k) (FX240 k) s0 s).trans (b202l0 k s.1.1 s.1.2.1 s.2.1 s.2.2.1 r h)) (.nil))
  (F:=fun k s=>FX202 k s.1.1) (fun k s r h=>(e202 (GX202l0 k) (FX202B k) (FX240 k) s).trans (b202 k s.1.1 r h)) k
theorem b117 (k:Nat) (x0:Int):LeO (FX117 k x0) (B117 (FX201 k) (FX202 k) x0):=LeO.refl _
theorem ok117 (k:Nat):FeOk Tryz.prog (fe117 (FX117 k)):=
 fe_ok EOK HM (es:=fun k=>fes117 (FX201 k) (FX202 k)) (fun k=>fc ⟨ok201 k,fc ⟨ok202 k,fz⟩⟩) (N:=7) (an:=an117) (c:=cd117) (rms:=rm117) (ask:=ask117) (rsk:=rsk117) (enc:=enc117) (dec:=dec117) (tbl:=[]) (fun s=>rfl) Tryz.func117 (by kernel_rfl) (by kernel_rfl) (by kernel_rfl) (fun k=>les117)
  (fz) (fun k s0=> .nil)
  (F:=fun k s=>FX117 k s.1.1) (fun k s r h=>(e117 (FX201 k) (FX202 k) s).trans (b117 k s.1.1 r h)) k
theorem b43 (k:Nat) (x0:Int):LeO (FX43 k x0) (B43 (FX115 k) (FX117 k) x0):=LeO.refl _
theorem ok43 (k:Nat):FeOk Tryz.prog (fe43 (FX43 k)):=
 fe_ok EOK HM (es:=fun k=>fes43 (FX115 k) (FX117 k)) (fun k=>fc ⟨ok115 k,fc ⟨ok117 k,fz⟩⟩) (N:=14) (an:=an43) (c:=cd43) (rms:=rm43) (ask:=ask43) (rsk:=rsk43) (enc:=enc43) (dec:=dec43) (tbl:=[]) (fun s=>rfl) Tryz.func43 (by kernel_rfl) (by kernel_rfl) (by kernel_rfl) (fun k=>les43)
  (fz) (fun k s0=> .nil)
  (F:=fun k s=>FX43 k s.1.1) (fun k s r h=>(e43 (FX115 k) (FX117 k) s).trans (b43 k s.1.1 r h)) k
theorem b180l0 (k:Nat) (x0:(List Int)) (x4:Int) (x3:(List Int)):LeO (GX180l0 (k+1) x0 x4 x3) (B180l0 (GX180l1 k) x0 x4 x3):=by rw [GX180l0];exact LeO.refl _
theorem b180l1 (k:Nat) (x0:(List Int)) (x4:Int) (x5:Int) (x3:(List Int)):LeO (GX180l1 (k+1) x0 x4 x5 x3) (B180l1 (GX180l0 k) (GX180l1 k) x0 x4 x5 x3):=by rw [GX180l1];exact LeO.refl _
theorem b180 (k:Nat) (x0:(List Int)):LeO (FX180 k x0) (B180 (GX180l0 k) x0):=LeO.refl _
theorem ok180 (k:Nat):FeOk Tryz.prog (fe180 (FX180 k)):=
 fe_ok EOK HM (es:=fun k=>fes180) (fun k=>fz) (N:=38) (an:=an180) (c:=cd180) (rms:=rm180) (ask:=ask180) (rsk:=rsk180) (enc:=enc180) (dec:=dec180) (tbl:=[p180.getD 0 ⟨0,[], .skip⟩,p180.getD 1 ⟨0,[], .skip⟩]) (fun s=>rfl) Tryz.func180 (by kernel_rfl) (by kernel_rfl) (by kernel_rfl) (fun k=>les180 (GX180l0 k) (GX180l1 k))
  (fc ⟨fun s=>rfl,fc ⟨fun s=>rfl,fz⟩⟩) (fun k s0=> .cons (by kernel_rfl) (by kernel_rfl) (fun s r h=>(e180l0 (GX180l0 k) (GX180l1 k) s0 s).trans (b180l0 k s.1.1 s.1.2.1 s.2.1 r h)) (.cons (by kernel_rfl) (by kernel_rfl) (fun s r h=>(e180l1 (GX180l0 k) (GX180l1 k) s0 s).trans (b180l1 k s.1.1 s.1.2.1 s.1.2.2.1 s.2.1 r h)) (.nil)))
  (F:=fun k s=>FX180 k s.1.1) (fun k s r h=>(e180 (GX180l0 k) (GX180l1 k) s).trans (b180 k s.1.1 r h)) k
theorem b93 (k:Nat) (x0:Int):LeO (FX93 k x0) (B93 (FX180 k) x0):=LeO.refl _
theorem ok93 (k:Nat):FeOk Tryz.prog (fe93 (FX93 k)):=
 fe_ok EOK HM (es:=fun k=>fes93 (FX180 k)) (fun k=>fc ⟨ok180 k,fz⟩) (N:=9) (an:=an93) (c:=cd93) (rms:=rm93) (ask:=ask93) (rsk:=rsk93) (enc:=enc93) (dec:=dec93) (tbl:=[]) (fun s=>rfl) Tryz.func93 (by kernel_rfl) (by kernel_rfl) (by kernel_rfl) (fun k=>les93)
  (fz) (fun k s0=> .nil)
  (F:=fun k s=>FX93 k s.1.1) (fun k s r h=>(e93 (FX180 k) s).trans (b93 k s.1.1 r h)) k
theorem b25 (k:Nat) (x0:Int):LeO (FX25 k x0) (B25 (FX93 k) x0):=LeO.refl _
theorem ok25 (k:Nat):FeOk Tryz.prog (fe25 (FX25 k)):=
 fe_ok EOK HM (es:=fun k=>fes25 (FX93 k)) (fun k=>fc ⟨ok93 k,fz⟩) (N:=16) (an:=an25) (c:=cd25) (rms:=rm25) (ask:=ask25) (rsk:=rsk25) (enc:=enc25) (dec:=dec25) (tbl:=[]) (fun s=>rfl) Tryz.func25 (by kernel_rfl) (by kernel_rfl) (by kernel_rfl) (fun k=>les25)
  (fz) (fun k s0=> .nil)
  (F:=fun k s=>FX25 k s.1.1) (fun k s r h=>(e25 (FX93 k) s).trans (b25 k s.1.1 r h)) k
theorem b14 (k:Nat) (x0:Int):LeO (FX14 k x0) (B14 (FX25 k) x0):=LeO.refl _
theorem ok14 (k:Nat):FeOk Tryz.prog (fe14 (FX14 k)):=
 fe_ok EOK HM (es:=fun k=>fes14 (FX25 k)) (fun k=>fc ⟨ok25 k,fz⟩) (N:=6) (an:=an14) (c:=cd14) (rms:=rm14) (ask:=ask14) (rsk:=rsk14) (enc:=enc14) (dec:=dec14) (tbl:=[]) (fun s=>rfl) Tryz.func14 (by kernel_rfl) (by kernel_rfl) (by kernel_rfl) (fun k=>les14)
  (fz) (fun k s0=> .nil)
  (F:=fun k s=>FX14 k s.1.1) (fun k s r h=>(e14 (FX25 k) s).trans (b14 k s.1.1 r h)) k
theorem b248 (k:Nat) (x0:TI):LeO (FX248 k x0) (B248 x0):=LeO.refl _
theorem ok248 (k:Nat):FeOk Tryz.prog (fe248 (FX248 k)):=
 fe_ok EOK HM (es:=fun k=>fes248) (fun k=>fz) (N:=10) (an:=an248) (c:=cd248) (rms:=rm248) (ask:=ask248) (rsk:=rsk248) (enc:=enc248) (dec:=dec248) (tbl:=[]) (fun s=>rfl) Tryz.func248 (by kernel_rfl) (by kernel_rfl) (by kernel_rfl) (fun k=>les248)
  (fz) (fun k s0=> .nil)
  (F:=fun k s=>FX248 k s.1.1) (fun k s r h=>(e248 s).trans (b248 k s.1.1 r h)) k
theorem b213 (k:Nat) (x0:TQ):LeO (FX213 k x0) (B213 (FX248 k) x0):=LeO.refl _
theorem ok213 (k:Nat):FeOk Tryz.prog (fe213 (FX213 k)):=
 fe_ok EOK HM (es:=fun k=>fes213 (FX248 k)) (fun k=>fc ⟨ok248 k,fz⟩) (N:=6) (an:=an213) (c:=cd213) (rms:=rm213) (ask:=ask213) (rsk:=rsk213) (enc:=enc213) (dec:=dec213) (tbl:=[]) (fun s=>rfl) Tryz.func213 (by kernel_rfl) (by kernel_rfl) (by kernel_rfl) (fun k=>les213)
  (fz) (fun k s0=> .nil)
  (F:=fun k s=>FX213 k s.1.1) (fun k s r h=>(e213 (FX248 k) s).trans (b213 k s.1.1 r h)) k
theorem b132l0 (k:Nat) (x0:(List TQ)) (x3:Int):LeO (GX132l0 (k+1) x0 x3) (B132l0 (GX132l0 k) (FX213 k) x0 x3):=by rw [GX132l0];exact LeO.refl _
theorem b132 (k:Nat) (x0:(List TQ)):LeO (FX132 k x0) (B132 (GX132l0 k) x0):=LeO.refl _
theorem ok132 (k:Nat):FeOk Tryz.prog (fe132 (FX132 k)):=
 fe_ok EOK HM (es:=fun k=>fes132 (FX213 k)) (fun k=>fc ⟨ok213 k,fz⟩) (N:=24) (an:=an132) (c:=cd132) (rms:=rm132) (ask:=ask132) (rsk:=rsk132) (enc:=enc132) (dec:=dec132) (tbl:=[p132.getD 0 ⟨0,[], .skip⟩]) (fun s=>rfl) Tryz.func132 (by kernel_rfl) (by kernel_rfl) (by kernel_rfl) (fun k=>les132 (GX132l0 k))
  (fc ⟨fun s=>rfl,fz⟩) (fun k s0=> .cons (by kernel_rfl) (by kernel_rfl) (fun s r h=>(e132l0 (GX132l0 k) (FX213 k) s0 s).trans (b132l0 k s.1.1 s.1.2.1 r h)) (.nil))
  (F:=fun k s=>FX132 k s.1.1) (fun k s r h=>(e132 (GX132l0 k) (FX213 k) s).trans (b132 k s.1.1 r h)) k
theorem b46l0 (k:Nat) (x6:(List Int)) (x7:Int) (x8:Int) (x3:(List TQ)):LeO (GX46l0 (k+1) x6 x7 x8 x3) (B46l0 (GX46l0 k) (FX14 k) (FX132 k) x6 x7 x8 x3):=by rw [GX46l0];exact LeO.refl _
theorem b46 (k:Nat) (x0:(List Int)):LeO (FX46 k x0) (B46 (GX46l0 k) x0):=LeO.refl _
theorem ok46 (k:Nat):FeOk Tryz.prog (fe46 (FX46 k)):=
 fe_ok EOK HM (es:=fun k=>fes46 (FX14 k) (FX132 k)) (fun k=>fc ⟨ok14 k,fc ⟨ok132 k,fz⟩⟩) (N:=20) (an:=an46) (c:=cd46) (rms:=rm46) (ask:=ask46) (rsk:=rsk46) (enc:=enc46) (dec:=dec46) (tbl:=[p46.getD 0 ⟨0,[], .skip⟩]) (fun s=>rfl) Tryz.func46 (by kernel_rfl) (by kernel_rfl) (by kernel_rfl) (fun k=>les46 (GX46l0 k))
  (fc ⟨fun s=>rfl,fz⟩) (fun k s0=> .cons (by kernel_rfl) (by kernel_rfl) (fun s r h=>(e46l0 (GX46l0 k) (FX14 k) (FX132 k) s0 s).trans (b46l0 k s.1.1 s.1.2.1 s.1.2.2.1 s.2.1 r h)) (.nil))
  (F:=fun k s=>FX46 k s.1.1) (fun k s r h=>(e46 (GX46l0 k) (FX14 k) (FX132 k) s).trans (b46 k s.1.1 r h)) k
theorem b8 (k:Nat):LeO (FX8 k) (B8 (FX40 k) (FX43 k) (FX46 k)):=LeO.refl _
theorem ok8 (k:Nat):FeOk Tryz.prog (fe8 (FX8 k)):=
 fe_ok EOK HM (es:=fun k=>fes8 (FX40 k) (FX43 k) (FX46 k)) (fun k=>fc ⟨ok40 k,fc ⟨ok43 k,fc ⟨ok46 k,fz⟩⟩⟩) (N:=16) (an:=an8) (c:=cd8) (rms:=rm8) (ask:=ask8) (rsk:=rsk8) (enc:=enc8) (dec:=dec8) (tbl:=[]) (fun s=>rfl) Tryz.func8 (by kernel_rfl) (by kernel_rfl) (by kernel_rfl) (fun k=>les8)
  (fz) (fun k s0=> .nil)
  (F:=fun k s=>FX8 k) (fun k s r h=>(e8 (FX40 k) (FX43 k) (FX46 k) s).trans (b8 k r h)) k
theorem b52l0 (k:Nat) (x5:(List Int)) (x6:Int) (x7:Int):LeO (GX52l0 (k+1) x5 x6 x7) (B52l0 (GX52l0 k) x5 x6 x7):=by rw [GX52l0];exact LeO.refl _
theorem b52 (k:Nat) (x0:(List Int)):LeO (FX52 k x0) (B52 (GX52l0 k) x0):=LeO.refl _
theorem ok52 (k:Nat):FeOk Tryz.prog (fe52 (FX52 k)):=
 fe_ok EOK HM (es:=fun k=>fes52) (fun k=>fz) (N:=18) (an:=an52) (c:=cd52) (rms:=rm52) (ask:=ask52) (rsk:=rsk52) (enc:=enc52) (dec:=dec52) (tbl:=[p52.getD 0 ⟨0,[], .skip⟩]) (fun s=>rfl) Tryz.func52 (by kernel_rfl) (by kernel_rfl) (by kernel_rfl) (fun k=>les52 (GX52l0 k))
  (fc ⟨fun s=>rfl,fz⟩) (fun k s0=> .cons (by kernel_rfl) (by kernel_rfl) (fun s r h=>(e52l0 (GX52l0 k) s0 s).trans (b52l0 k s.1.1 s.1.2.1 s.1.2.2.1 r h)) (.nil))
  (F:=fun k s=>FX52 k s.1.1) (fun k s r h=>(e52 (GX52l0 k) s).trans (b52 k s.1.1 r h)) k
theorem b137 (k:Nat) (x0:Int):LeO (FX137 k x0) (B137 x0):=LeO.refl _
theorem ok137 (k:Nat):FeOk Tryz.prog (fe137 (FX137 k)):=
 fe_ok EOK HM (es:=fun k=>fes137) (fun k=>fz) (N:=5) (an:=an137) (c:=cd137) (rms:=rm137) (ask:=ask137) (rsk:=rsk137) (enc:=enc137) (dec:=dec137) (tbl:=[]) (fun s=>rfl) Tryz.func137 (by kernel_rfl) (by kernel_rfl) (by kernel_rfl) (fun k=>les137)
  (fz) (fun k s0=> .nil)
  (F:=fun k s=>FX137 k s.1.1) (fun k s r h=>(e137 s).trans (b137 k s.1.1 r h)) k
theorem b138l0 (k:Nat) (x0:Int) (x4:Int) (x5:Int):LeO (GX138l0 (k+1) x0 x4 x5) (B138l0 (GX138l1 k) x0 x4 x5):=by rw [GX138l0];exact LeO.refl _
theorem b138l1 (k:Nat) (x0:Int) (x4:Int) (x5:Int):LeO (GX138l1 (k+1) x0 x4 x5) (B138l1 (GX138l0 k) (GX138l1 k) x0 x4 x5):=by rw [GX138l1];exact LeO.refl _
theorem b138 (k:Nat) (x0:Int):LeO (FX138 k x0) (B138 (GX138l0 k) x0):=LeO.refl _
theorem ok138 (k:Nat):FeOk Tryz.prog (fe138 (FX138 k)):=
 fe_ok EOK HM (es:=fun k=>fes138) (fun k=>fz) (N:=32) (an:=an138) (c:=cd138) (rms:=rm138) (ask:=ask138) (rsk:=rsk138) (enc:=enc138) (dec:=dec138) (tbl:=[p138.getD 0 ⟨0,[], .skip⟩,p138.getD 1 ⟨0,[], .skip⟩]) (fun s=>rfl) Tryz.func138 (by kernel_rfl) (by kernel_rfl) (by kernel_rfl) (fun k=>les138 (GX138l0 k) (GX138l1 k))
  (fc ⟨fun s=>rfl,fc ⟨fun s=>rfl,fz⟩⟩) (fun k s0=> .cons (by kernel_rfl) (by kernel_rfl) (fun s r h=>(e138l0 (GX138l0 k) (GX138l1 k) s0 s).trans (b138l0 k s.1.1 s.1.2.1 s.1.2.2.1 r h)) (.cons (by kernel_rfl) (by kernel_rfl) (fun s r h=>(e138l1 (GX138l0 k) (GX138l1 k) s0 s).trans (b138l1 k s.1.1 s.1.2.1 s.1.2.2.1 r h)) (.nil)))
  (F:=fun k s=>FX138 k s.1.1) (fun k s r h=>(e138 (GX138l0 k) (GX138l1 k) s).trans (b138 k s.1.1 r h)) k
theorem b53 (k:Nat) (x0:Int):LeO (FX53 k x0) (B53 (FX137 k) (FX138 k) x0):=LeO.refl _
theorem ok53 (k:Nat):FeOk Tryz.prog (fe53 (FX53 k)):=
 fe_ok EOK HM (es:=fun k=>fes53 (FX137 k) (FX138 k)) (fun k=>fc ⟨ok137 k,fc ⟨ok138 k,fz⟩⟩) (N:=41) (an:=an53) (c:=cd53) (rms:=rm53) (ask:=ask53) (rsk:=rsk53) (enc:=enc53) (dec:=dec53) (tbl:=[]) (fun s=>rfl) Tryz.func53 (by kernel_rfl) (by kernel_rfl) (by kernel_rfl) (fun k=>les53)
  (fz) (fun k s0=> .nil)
  (F:=fun k s=>FX53 k s.1.1) (fun k s r h=>(e53 (FX137 k) (FX138 k) s).trans (b53 k s.1.1 r h)) k
theorem b54 (k:Nat) (x0:Int):LeO (FX54 k x0) (B54 x0):=LeO.refl _
end Go.Proofs.YtfllafbphddooaaGreatV
