/- Part of the proof of the statement FieldpolyBounds: lemmas on the model's steps, Lean functions that say what the program's functions compute, and proofs that the calls do just that. No hypothesis is added. -/
import Derived.Test.YtijohnkgomcdbaaGreatKFieldpolyBounds2
set_option linter.all false
set_option maxRecDepth 100000
namespace Go.Proofs.YtijohnkgomcdbaaGreatV
open Go Go.RowKit YtijohnkgomcdbaaGreatE YtijohnkgomcdbaaGreatW.PrintWords YtijohnkgomcdbaaGreatW.PrintLast YtijohnkgomcdbaaGreatW.PrintMore
noncomputable def rk223 (s0:SbT ask223.bl):KX R223:=retK E0 Tryz.f223.results.toList rm223 (mkB ask223.bl s0) (decW rsk223 dec223)
noncomputable def k223l0:Sk:=⟨[(3, .f (.a (.ref 3))),(17, .d (.li (.it .u64))),(18, .d (.it .i64)),(19, .d (.it .i64))],[(3, .own (.it .u8) true)]⟩
noncomputable def k223l1:Sk:=⟨[(3, .f (.a (.ref 3))),(4, .d (.it .i64)),(5, .d (.it .u64)),(17, .d (.li (.it .u64))),(18, .d (.it .i64)),(19, .d (.it .i64)),(24, .d (.it .i64))],[(3, .own (.it .u8) true)]⟩
noncomputable def k223l2:Sk:=⟨[(3, .f (.a (.ref 3))),(7, .d (.it .i64))],[(3, .own (.it .u8) true)]⟩
noncomputable def les223 (gl0:(List Int)→Int→Int→(List Int)→Option R223) (gl1:Int→Int→(List Int)→Int→Int→Int→(List Int)→Option R223) (gl2:Int→(List Int)→Option R223):List (LoE R223):=[⟨6,k223l0,fun s=>gl0 s.1.1 s.1.2.1 s.1.2.2.1 s.2.1⟩,⟨9,k223l1,fun s=>gl1 s.1.1 s.1.2.1 s.1.2.2.1 s.1.2.2.2.1 s.1.2.2.2.2.1 s.1.2.2.2.2.2.1 s.2.1⟩,⟨15,k223l2,fun s=>gl2 s.1.1 s.2.1⟩]
noncomputable def fes223 (c245v:(List Int)→Option R245v):List FE:=[(fe245v c245v)]
section
variable (gl0:(List Int)→Int→Int→(List Int)→Option R223) (gl1:Int→Int→(List Int)→Int→Int→Int→(List Int)→Option R223) (gl2:Int→(List Int)→Option R223) (c245v:(List Int)→Option R245v)
noncomputable def B223l0 (x17:(List Int)) (x18:Int) (x19:Int) (x3:(List Int)):Option R223:=if x19<x18 then(if 0≤x19 then(if x19<(x17.length:Int)then(gl1 x19 (rd x17 x19) x17 x18 x19 0 x3)else(none))else(none))else(gl2 0 x3)
theorem e223l0 (s0:SbT ask223.bl) (s:k223l0.T):evPos E0 (orcOf (fes223 c245v)) 55 an223 (loOf (les223 gl0 gl1 gl2)) (rk223 s0) (p223.getD 0 ⟨0,[], .skip⟩) (k223l0.mk' s)=B223l0 gl1 gl2 s.1.1 s.1.2.1 s.1.2.2.1 s.2.1:=by kernel_rfl
noncomputable def B223l1 (x4:Int) (x5:Int) (x17:(List Int)) (x18:Int) (x19:Int) (x24:Int) (x3:(List Int)):Option R223:=if x24<8 then(if 0≤wrap64 (8*x24)then(if 0≤wrap64 ((wrap64 ((wrap64 ((x3.length:Int)-1))-(wrap64 (8*x4))))-x24)then(if wrap64 ((wrap64 ((wrap64 ((x3.length:Int)-1))-(wrap64 (8*x4))))-x24)<(x3.length:Int)then(gl1 x4 x5 x17 x18 x19 (wrap64 (x24+1)) (x3.set (wrap64 ((wrap64 ((wrap64 ((x3.length:Int)-1))-(wrap64 (8*x4))))-x24):Int).toNat (IntKind.u8.wrap (shr .u64 x5 (wrap64 (8*x24))))))else(none))else(none))else(none))else(gl0 x17 x18 (wrap64 (x19+1)) x3)
theorem e223l1 (s0:SbT ask223.bl) (s:k223l1.T):evPos E0 (orcOf (fes223 c245v)) 55 an223 (loOf (les223 gl0 gl1 gl2)) (rk223 s0) (p223.getD 1 ⟨0,[], .skip⟩) (k223l1.mk' s)=B223l1 gl0 gl1 s.1.1 s.1.2.1 s.1.2.2.1 s.1.2.2.2.1 s.1.2.2.2.2.1 s.1.2.2.2.2.2.1 s.2.1:=by kernel_rfl
noncomputable def B223l2 (x7:Int) (x3:(List Int)):Option R223:=if 0≤x7 then(if x7<(x3.length:Int)then(if rd x3 x7=0 then(gl2 (wrap64 (x7+1)) x3)else(if 0≤x7 then(if x7≤(x3.length:Int)then(if(x3.length:Int)≤(x3.length:Int)then(if(x3.length:Int)≤(x3.length:Int)then(some (strOfNums (slice_ x3 x7 (x3.length:Int))))else(none))else(none))else(none))else(none)))else(none))else(none)
theorem e223l2 (s0:SbT ask223.bl) (s:k223l2.T):evPos E0 (orcOf (fes223 c245v)) 55 an223 (loOf (les223 gl0 gl1 gl2)) (rk223 s0) (p223.getD 2 ⟨0,[], .skip⟩) (k223l2.mk' s)=B223l2 gl2 s.1.1 s.2.1:=by kernel_rfl
noncomputable def B223 (x0:(List Int)):Option R223:=(c245v x0).bind fun r1=>(if(r1.length:Int)=0 then(some (⟨#[]⟩:ByteArray))else(if 0≤wrap64 (8*(r1.length:Int))then(if wrap64 (8*(r1.length:Int))≤wrap64 (8*(r1.length:Int))then(if(wrap64 (8*(r1.length:Int)):Int).toNat≤281474976710656 then(gl0 r1 (r1.length:Int) 0 (List.replicate (wrap64 (8*(r1.length:Int)):Int).toNat (0:Int)))else(none))else(none))else(none)))
theorem e223 (s:ask223.T):evFn E0 (orcOf (fes223 c245v)) an223 (loOf (les223 gl0 gl1 gl2)) 55 cd223 Tryz.f223.results.toList rm223 (ask223.mk' s) (decW rsk223 dec223)=B223 gl0 c245v s.1.1:=by kernel_rfl
end
noncomputable def an193:Ann:=⟨[],[],[]⟩
noncomputable def cd193:Code:=(Tryz.f193.body).getD .skip
noncomputable def rm193:List RM:=[.d .st]
noncomputable def les193:List (LoE R193):=[]
noncomputable def fes193 (c223:(List Int)→Option R223):List FE:=[(fe223 c223)]
section
variable (c223:(List Int)→Option R223)
noncomputable def B193 (x0:Int):Option R193:=(c223 ([x0]:List Int)).bind fun r1=>(some r1)
theorem e193 (s:ask193.T):evFn E0 (orcOf (fes193 c223)) an193 (loOf (les193)) 6 cd193 Tryz.f193.results.toList rm193 (ask193.mk' s) (decW rsk193 dec193)=B193 c223 s.1.1:=by kernel_rfl
end
noncomputable def an150:Ann:=⟨[],[],[]⟩
noncomputable def cd150:Code:=(Tryz.f150.body).getD .skip
noncomputable def rm150:List RM:=[.d (.ag (.pr .bo .st))]
noncomputable def les150:List (LoE R150):=[]
noncomputable def fes150 (c193:Int→Option R193):List FE:=[(fe193 c193)]
section
variable (c193:Int→Option R193)
noncomputable def B150 (x0:Int):Option R150:=if x0<0 then((c193 (IntKind.u64.wrap (0-(IntKind.u64.wrap (x0))))).bind fun r1=>(some (true,r1)))else((c193 (IntKind.u64.wrap (x0))).bind fun r2=>(some (false,r2)))
theorem e150 (s:ask150.T):evFn E0 (orcOf (fes150 c193)) an150 (loOf (les150)) 14 cd150 Tryz.f150.results.toList rm150 (ask150.mk' s) (decW rsk150 dec150)=B150 c193 s.1.1:=by kernel_rfl
end
noncomputable def an89:Ann:=⟨[],[],[]⟩
noncomputable def cd89:Code:=(Tryz.f89.body).getD .skip
noncomputable def rm89:List RM:=[.d (.ag (.pr (.ag (.pr .bo .st)) .st))]
noncomputable def les89:List (LoE R89):=[]
noncomputable def fes89 (c149:TI→Option R149) (c150:Int→Option R150):List FE:=[(fe149 c149),(fe150 c150)]
section
variable (c149:TI→Option R149) (c150:Int→Option R150)
noncomputable def B89 (x0:Int):Option R89:=(c150 x0).bind fun r1=>((c149 (r1.1,r1.2)).bind fun r2=>(some (r2.1,r2.2)))
theorem e89 (s:ask89.T):evFn E0 (orcOf (fes89 c149 c150)) an89 (loOf (les89)) 6 cd89 Tryz.f89.results.toList rm89 (ask89.mk' s) (decW rsk89 dec89)=B89 c149 c150 s.1.1:=by kernel_rfl
end
noncomputable def an152:Ann:=⟨[],[],[]⟩
noncomputable def cd152:Code:=(Tryz.f152.body).getD .skip
noncomputable def rm152:List RM:=[.d .bo]
noncomputable def les152:List (LoE R152):=[]
noncomputable def fes152:List FE:=[]
noncomputable def B152 (x0:TQ):Option R152:=some (eqS x0.1.2 (⟨#[]⟩:ByteArray))
theorem e152 (s:ask152.T):evFn E0 (orcOf (fes152)) an152 (loOf (les152)) 7 cd152 Tryz.f152.results.toList rm152 (ask152.mk' s) (decW rsk152 dec152)=B152 s.1.1:=by kernel_rfl
noncomputable def an214:Ann:=⟨[],[],[]⟩
noncomputable def cd214:Code:=(Tryz.f214.body).getD .skip
noncomputable def rm214:List RM:=[.d (.it .i64)]
noncomputable def les214:List (LoE R214):=[]
noncomputable def fes214:List FE:=[]
noncomputable def B214 (x0:ByteArray):Option R214:=if(x0.size:Int)>0 then(if(0:Int)≤0 then(if 0<(x0.size:Int)then(if bt x0 0=0 then(some 1)else(if(x0.size:Int)>1024 then(some 4)else(some 0)))else(none))else(none))else(if(x0.size:Int)>1024 then(some 4)else(some 0))
theorem e214 (s:ask214.T):evFn E0 (orcOf (fes214)) an214 (loOf (les214)) 14 cd214 Tryz.f214.results.toList rm214 (ask214.mk' s) (decW rsk214 dec214)=B214 s.1.1:=by kernel_rfl
noncomputable def an243:Ann:=⟨[],[],[]⟩
noncomputable def cd243:Code:=(Tryz.f243.body).getD .skip
noncomputable def rm243:List RM:=[.d (.ag (.pr .bo .st))]
noncomputable def les243:List (LoE R243):=[]
noncomputable def fes243:List FE:=[]
noncomputable def B243:Option R243:=some (false,(⟨#[]⟩:ByteArray))
theorem e243 (s:ask243.T):evFn E0 (orcOf (fes243)) an243 (loOf (les243)) 2 cd243 Tryz.f243.results.toList rm243 (ask243.mk' s) (decW rsk243 dec243)=B243:=by kernel_rfl
noncomputable def an213:Ann:=⟨[],[],[]⟩
noncomputable def cd213:Code:=(Tryz.f213.body).getD .skip
noncomputable def rm213:List RM:=[.d (.it .i64)]
noncomputable def les213:List (LoE R213):=[]
noncomputable def fes213 (c214:ByteArray→Option R214) (c243:Option R243):List FE:=[(fe214 c214),(fe243 c243)]
section
variable (c214:ByteArray→Option R214) (c243:Option R243)
noncomputable def B213 (x0:TI):Option R213:=(c214 x0.2).bind fun r1=>(if r1=1 then(some r1)else((c243).bind fun r2=>(cnd ((!((x0.1==r2.1)&&(eqS x0.2 r2.2)))) (cnd ((eqS x0.2 (⟨#[]⟩:ByteArray))) (some 1) (some r1)) (some r1))))
theorem e213 (s:ask213.T):evFn E0 (orcOf (fes213 c214 c243)) an213 (loOf (les213)) 21 cd213 Tryz.f213.results.toList rm213 (ask213.mk' s) (decW rsk213 dec213)=B213 c214 c243 s.1.1:=by kernel_rfl
end
noncomputable def an245:Ann:=⟨[(2,[(0, .any),(3, .any)])],[],[]⟩
noncomputable def cd245:Code:=(Tryz.f245.body).getD .skip
noncomputable def p245:List Pos:=posns an245 [] cd245
noncomputable def rm245:List RM:=[.sh]
noncomputable def rk245 (s0:SbT ask245.bl):KX R245:=retK E0 Tryz.f245.results.toList rm245 (mkB ask245.bl s0) (decW rsk245 dec245)
noncomputable def k245l0:Sk:=⟨[(0, .f (.a (.ref 2000))),(3, .d (.it .i64))],[(2000, .own (.it .u64) false)]⟩
noncomputable def les245 (gl0:Int→(List Int)→Option R245):List (LoE R245):=[⟨2,k245l0,fun s=>gl0 s.1.1 s.2.1⟩]
noncomputable def fes245:List FE:=[]
section
variable (gl0:Int→(List Int)→Option R245)
noncomputable def B245l0 (x3:Int) (y0:(List Int)):Option R245:=if x3>0 then(if 0≤wrap64 (x3-1)then(if wrap64 (x3-1)<(y0.length:Int)then(if rd y0 (wrap64 (x3-1))=0 then(gl0 (wrap64 (x3-1)) y0)else(if(0:Int)≤0 then(if 0≤x3 then(if x3≤(y0.length:Int)then(if(y0.length:Int)≤(y0.length:Int)then(some (x3,y0))else(none))else(none))else(none))else(none)))else(none))else(none))else(if(0:Int)≤0 then(if 0≤x3 then(if x3≤(y0.length:Int)then(if(y0.length:Int)≤(y0.length:Int)then(some (x3,y0))else(none))else(none))else(none))else(none))
theorem e245l0 (s0:SbT ask245.bl) (s:k245l0.T):evPos E0 (orcOf (fes245)) 21 an245 (loOf (les245 gl0)) (rk245 s0) (p245.getD 0 ⟨0,[], .skip⟩) (k245l0.mk' s)=B245l0 gl0 s.1.1 s.2.1:=by kernel_rfl
noncomputable def B245 (y0:(List Int)):Option R245:=gl0 (y0.length:Int) y0
theorem e245 (s:ask245.T):evFn E0 (orcOf (fes245)) an245 (loOf (les245 gl0)) 21 cd245 Tryz.f245.results.toList rm245 (ask245.mk' s) (decW rsk245 dec245)=B245 gl0 s.2.1:=by kernel_rfl
end
noncomputable def an225:Ann:=⟨[(3,[(0, .any),(3, .any),(12, .any),(13, .any)])],[],[]⟩
noncomputable def cd225:Code:=(Tryz.f225.body).getD .skip
noncomputable def p225:List Pos:=posns an225 [] cd225
noncomputable def rm225:List RM:=[.own (.it .u64)]
noncomputable def rk225 (s0:SbT ask225.bl):KX R225:=retK E0 Tryz.f225.results.toList rm225 (mkB ask225.bl s0) (decW rsk225 dec225)
noncomputable def k225l0:Sk:=⟨[(0, .d .st),(3, .f (.a (.ref 3))),(12, .d (.it .i64)),(13, .d (.it .i64))],[(3, .own (.it .u64) true)]⟩
noncomputable def les225 (gl0:ByteArray→Int→Int→(List Int)→Option R225):List (LoE R225):=[⟨3,k225l0,fun s=>gl0 s.1.1 s.1.2.1 s.1.2.2.1 s.2.1⟩]
noncomputable def fes225 (c245:(List Int)→Option R245):List FE:=[(fe245 c245)]
section
variable (gl0:ByteArray→Int→Int→(List Int)→Option R225) (c245:(List Int)→Option R245)
noncomputable def B225l0 (x0:ByteArray) (x12:Int) (x13:Int) (x3:(List Int)):Option R225:=if x13<x12 then(if(8:Int)=0 then(none)else(if 0≤wrap64 (Int.tdiv (wrap64 ((wrap64 ((x0.size:Int)-1))-x13)) 8)then(if wrap64 (Int.tdiv (wrap64 ((wrap64 ((x0.size:Int)-1))-x13)) 8)<(x3.length:Int)then(if 0≤x13 then(if x13<(x0.size:Int)then(if(8:Int)=0 then(none)else(if 0≤wrap64 (8*(Int.tmod (wrap64 ((wrap64 ((x0.size:Int)-1))-x13)) 8))then(if 0≤wrap64 (Int.tdiv (wrap64 ((wrap64 ((x0.size:Int)-1))-x13)) 8)then(if wrap64 (Int.tdiv (wrap64 ((wrap64 ((x0.size:Int)-1))-x13)) 8)<(x3.length:Int)then(gl0 x0 x12 (wrap64 (x13+1)) (x3.set (wrap64 (Int.tdiv (wrap64 ((wrap64 ((x0.size:Int)-1))-x13)) 8):Int).toNat (Go.bits .or .u64 (rd x3 (wrap64 (Int.tdiv (wrap64 ((wrap64 ((x0.size:Int)-1))-x13)) 8))) (shl .u64 (IntKind.u64.wrap (bt x0 x13)) (wrap64 (8*(Int.tmod (wrap64 ((wrap64 ((x0.size:Int)-1))-x13)) 8)))))))else(none))else(none))else(none)))else(none))else(none))else(none))else(none)))else((c245 x3).bind fun r1=>(some (r1.2.take (r1.1:Int).toNat)))
theorem e225l0 (s0:SbT ask225.bl) (s:k225l0.T):evPos E0 (orcOf (fes225 c245)) 39 an225 (loOf (les225 gl0)) (rk225 s0) (p225.getD 0 ⟨0,[], .skip⟩) (k225l0.mk' s)=B225l0 gl0 c245 s.1.1 s.1.2.1 s.1.2.2.1 s.2.1:=by kernel_rfl
noncomputable def B225 (x0:ByteArray):Option R225:=if(8:Int)=0 then(none)else(if 0≤wrap64 (Int.tdiv (wrap64 ((x0.size:Int)+7)) 8)then(if wrap64 (Int.tdiv (wrap64 ((x0.size:Int)+7)) 8)≤wrap64 (Int.tdiv (wrap64 ((x0.size:Int)+7)) 8)then(if(wrap64 (Int.tdiv (wrap64 ((x0.size:Int)+7)) 8):Int).toNat≤35184372088832 then(gl0 x0 (x0.size:Int) 0 (List.replicate (wrap64 (Int.tdiv (wrap64 ((x0.size:Int)+7)) 8):Int).toNat (0:Int)))else(none))else(none))else(none))
theorem e225 (s:ask225.T):evFn E0 (orcOf (fes225 c245)) an225 (loOf (les225 gl0)) 39 cd225 Tryz.f225.results.toList rm225 (ask225.mk' s) (decW rsk225 dec225)=B225 gl0 s.1.1:=by kernel_rfl
end
noncomputable def an276:Ann:=⟨[(6,[(0, .any),(1, .any),(5, .any)])],[],[]⟩
noncomputable def cd276:Code:=(Tryz.f276.body).getD .skip
noncomputable def p276:List Pos:=posns an276 [] cd276
noncomputable def rm276:List RM:=[.d (.it .i64)]
noncomputable def rk276 (s0:SbT ask276.bl):KX R276:=retK E0 Tryz.f276.results.toList rm276 (mkB ask276.bl s0) (decW rsk276 dec276)
noncomputable def k276l0:Sk:=⟨[(0, .d (.li (.it .u64))),(1, .d (.li (.it .u64))),(5, .d (.it .i64))],[]⟩
noncomputable def les276 (gl0:(List Int)→(List Int)→Int→Option R276):List (LoE R276):=[⟨6,k276l0,fun s=>gl0 s.1.1 s.1.2.1 s.1.2.2.1⟩]
noncomputable def fes276:List FE:=[]
section
variable (gl0:(List Int)→(List Int)→Int→Option R276)
noncomputable def B276l0 (x0:(List Int)) (x1:(List Int)) (x5:Int):Option R276:=if x5≥0 then(if 0≤x5 then(if x5<(x0.length:Int)then(if 0≤x5 then(if x5<(x1.length:Int)then(if rd x0 x5≠rd x1 x5 then(if 0≤x5 then(if x5<(x0.length:Int)then(if 0≤x5 then(if x5<(x1.length:Int)then(if rd x0 x5<rd x1 x5 then(some (-1))else(some 1))else(none))else(none))else(none))else(none))else(gl0 x0 x1 (wrap64 (x5-1))))else(none))else(none))else(none))else(none))else(some 0)
theorem e276l0 (s0:SbT ask276.bl) (s:k276l0.T):evPos E0 (orcOf (fes276)) 41 an276 (loOf (les276 gl0)) (rk276 s0) (p276.getD 0 ⟨0,[], .skip⟩) (k276l0.mk' s)=B276l0 gl0 s.1.1 s.1.2.1 s.1.2.2.1:=by kernel_rfl
noncomputable def B276 (x0:(List Int)) (x1:(List Int)):Option R276:=if(x0.length:Int)≠(x1.length:Int)then(if(x0.length:Int)<(x1.length:Int)then(some (-1))else(some 1))else(gl0 x0 x1 (wrap64 ((x0.length:Int)-1)))
theorem e276 (s:ask276.T):evFn E0 (orcOf (fes276)) an276 (loOf (les276 gl0)) 41 cd276 Tryz.f276.results.toList rm276 (ask276.mk' s) (decW rsk276 dec276)=B276 gl0 s.1.1 s.1.2.1:=by kernel_rfl
end
noncomputable def an297:Ann:=⟨[],[],[]⟩
noncomputable def cd297:Code:=(Tryz.f297.body).getD .skip
noncomputable def rm297:List RM:=[.d (.it .i64)]
noncomputable def les297:List (LoE R297):=[]
noncomputable def fes297:List FE:=[]
noncomputable def B297 (x0:Int):Option R297:=if x0≥4294967296 then(if(0:Int)≤32 then(if x0/4294967296≥65536 then(if(0:Int)≤16 then(if(x0/4294967296)/65536≥256 then(if(0:Int)≤8 then(if 0≤IntKind.u8.wrap (((x0/4294967296)/65536)/256)then(if IntKind.u8.wrap (((x0/4294967296)/65536)/256)<((⟨#[0,1,2,2,3,3,3,3,4,4,4,4,4,4,4,4,5,5,5,5,5,5,5,5,5,5,5,5,5,5,5,5,6,6,6,6,6,6,6,6,6,6,6,6,6,6,6,6,6,6,6,6,6,6,6,6,6,6,6,6,6,6,6,6,7,7,7,7,7,7,7,7,7,7,7,7,7,7,7,7,7,7,7,7,7,7,7,7,7,7,7,7,7,7,7,7,7,7,7,7,7,7,7,7,7,7,7,7,7,7,7,7,7,7,7,7,7,7,7,7,7,7,7,7,7,7,7,7,8,8,8,8,8,8,8,8,8,8,8,8,8,8,8,8,8,8,8,8,8,8,8,8,8,8,8,8,8,8,8,8,8,8,8,8,8,8,8,8,8,8,8,8,8,8,8,8,8,8,8,8,8,8,8,8,8,8,8,8,8,8,8,8,8,8,8,8,8,8,8,8,8,8,8,8,8,8,8,8,8,8,8,8,8,8,8,8,8,8,8,8,8,8,8,8,8,8,8,8,8,8,8,8,8,8,8,8,8,8,8,8,8,8,8,8,8,8,8,8,8,8,8,8,8,8,8,8]⟩:ByteArray).size:Int)then(some (wrap64 (56+(wrap64 (bt (⟨#[0,1,2,2,3,3,3,3,4,4,4,4,4,4,4,4,5,5,5,5,5,5,5,5,5,5,5,5,5,5,5,5,6,6,6,6,6,6,6,6,6,6,6,6,6,6,6,6,6,6,6,6,6,6,6,6,6,6,6,6,6,6,6,6,7,7,7,7,7,7,7,7,7,7,7,7,7,7,7,7,7,7,7,7,7,7,7,7,7,7,7,7,7,7,7,7,7,7,7,7,7,7,7,7,7,7,7,7,7,7,7,7,7,7,7,7,7,7,7,7,7,7,7,7,7,7,7,7,8,8,8,8,8,8,8,8,8,8,8,8,8,8,8,8,8,8,8,8,8,8,8,8,8,8,8,8,8,8,8,8,8,8,8,8,8,8,8,8,8,8,8,8,8,8,8,8,8,8,8,8,8,8,8,8,8,8,8,8,8,8,8,8,8,8,8,8,8,8,8,8,8,8,8,8,8,8,8,8,8,8,8,8,8,8,8,8,8,8,8,8,8,8,8,8,8,8,8,8,8,8,8,8,8,8,8,8,8,8,8,8,8,8,8,8,8,8,8,8,8,8,8,8,8,8,8,8]⟩:ByteArray) (IntKind.u8.wrap (((x0/4294967296)/65536)/256)))))))else(none))else(none))else(none))else(if 0≤IntKind.u8.wrap ((x0/4294967296)/65536)then(if IntKind.u8.wrap ((x0/4294967296)/65536)<((⟨#[0,1,2,2,3,3,3,3,4,4,4,4,4,4,4,4,5,5,5,5,5,5,5,5,5,5,5,5,5,5,5,5,6,6,6,6,6,6,6,6,6,6,6,6,6,6,6,6,6,6,6,6,6,6,6,6,6,6,6,6,6,6,6,6,7,7,7,7,7,7,7,7,7,7,7,7,7,7,7,7,7,7,7,7,7,7,7,7,7,7,7,7,7,7,7,7,7,7,7,7,7,7,7,7,7,7,7,7,7,7,7,7,7,7,7,7,7,7,7,7,7,7,7,7,7,7,7,7,8,8,8,8,8,8,8,8,8,8,8,8,8,8,8,8,8,8,8,8,8,8,8,8,8,8,8,8,8,8,8,8,8,8,8,8,8,8,8,8,8,8,8,8,8,8,8,8,8,8,8,8,8,8,8,8,8,8,8,8,8,8,8,8,8,8,8,8,8,8,8,8,8,8,8,8,8,8,8,8,8,8,8,8,8,8,8,8,8,8,8,8,8,8,8,8,8,8,8,8,8,8,8,8,8,8,8,8,8,8,8,8,8,8,8,8,8,8,8,8,8,8,8,8,8,8,8,8]⟩:ByteArray).size:Int)then(some (wrap64 (48+(wrap64 (bt (⟨#[0,1,2,2,3,3,3,3,4,4,4,4,4,4,4,4,5,5,5,5,5,5,5,5,5,5,5,5,5,5,5,5,6,6,6,6,6,6,6,6,6,6,6,6,6,6,6,6,6,6,6,6,6,6,6,6,6,6,6,6,6,6,6,6,7,7,7,7,7,7,7,7,7,7,7,7,7,7,7,7,7,7,7,7,7,7,7,7,7,7,7,7,7,7,7,7,7,7,7,7,7,7,7,7,7,7,7,7,7,7,7,7,7,7,7,7,7,7,7,7,7,7,7,7,7,7,7,7,8,8,8,8,8,8,8,8,8,8,8,8,8,8,8,8,8,8,8,8,8,8,8,8,8,8,8,8,8,8,8,8,8,8,8,8,8,8,8,8,8,8,8,8,8,8,8,8,8,8,8,8,8,8,8,8,8,8,8,8,8,8,8,8,8,8,8,8,8,8,8,8,8,8,8,8,8,8,8,8,8,8,8,8,8,8,8,8,8,8,8,8,8,8,8,8,8,8,8,8,8,8,8,8,8,8,8,8,8,8,8,8,8,8,8,8,8,8,8,8,8,8,8,8,8,8,8,8]⟩:ByteArray) (IntKind.u8.wrap ((x0/4294967296)/65536)))))))else(none))else(none)))else(none))else(if x0/4294967296≥256 then(if(0:Int)≤8 then(if 0≤IntKind.u8.wrap ((x0/4294967296)/256)then(if IntKind.u8.wrap ((x0/4294967296)/256)<((⟨#[0,1,2,2,3,3,3,3,4,4,4,4,4,4,4,4,5,5,5,5,5,5,5,5,5,5,5,5,5,5,5,5,6,6,6,6,6,6,6,6,6,6,6,6,6,6,6,6,6,6,6,6,6,6,6,6,6,6,6,6,6,6,6,6,7,7,7,7,7,7,7,7,7,7,7,7,7,7,7,7,7,7,7,7,7,7,7,7,7,7,7,7,7,7,7,7,7,7,7,7,7,7,7,7,7,7,7,7,7,7,7,7,7,7,7,7,7,7,7,7,7,7,7,7,7,7,7,7,8,8,8,8,8,8,8,8,8,8,8,8,8,8,8,8,8,8,8,8,8,8,8,8,8,8,8,8,8,8,8,8,8,8,8,8,8,8,8,8,8,8,8,8,8,8,8,8,8,8,8,8,8,8,8,8,8,8,8,8,8,8,8,8,8,8,8,8,8,8,8,8,8,8,8,8,8,8,8,8,8,8,8,8,8,8,8,8,8,8,8,8,8,8,8,8,8,8,8,8,8,8,8,8,8,8,8,8,8,8,8,8,8,8,8,8,8,8,8,8,8,8,8,8,8,8,8,8]⟩:ByteArray).size:Int)then(some (wrap64 (40+(wrap64 (bt (⟨#[0,1,2,2,3,3,3,3,4,4,4,4,4,4,4,4,5,5,5,5,5,5,5,5,5,5,5,5,5,5,5,5,6,6,6,6,6,6,6,6,6,6,6,6,6,6,6,6,6,6,6,6,6,6,6,6,6,6,6,6,6,6,6,6,7,7,7,7,7,7,7,7,7,7,7,7,7,7,7,7,7,7,7,7,7,7,7,7,7,7,7,7,7,7,7,7,7,7,7,7,7,7,7,7,7,7,7,7,7,7,7,7,7,7,7,7,7,7,7,7,7,7,7,7,7,7,7,7,8,8,8,8,8,8,8,8,8,8,8,8,8,8,8,8,8,8,8,8,8,8,8,8,8,8,8,8,8,8,8,8,8,8,8,8,8,8,8,8,8,8,8,8,8,8,8,8,8,8,8,8,8,8,8,8,8,8,8,8,8,8,8,8,8,8,8,8,8,8,8,8,8,8,8,8,8,8,8,8,8,8,8,8,8,8,8,8,8,8,8,8,8,8,8,8,8,8,8,8,8,8,8,8,8,8,8,8,8,8,8,8,8,8,8,8,8,8,8,8,8,8,8,8,8,8,8,8]⟩:ByteArray) (IntKind.u8.wrap ((x0/4294967296)/256)))))))else(none))else(none))else(none))else(if 0≤IntKind.u8.wrap (x0/4294967296)then(if IntKind.u8.wrap (x0/4294967296)<((⟨#[0,1,2,2,3,3,3,3,4,4,4,4,4,4,4,4,5,5,5,5,5,5,5,5,5,5,5,5,5,5,5,5,6,6,6,6,6,6,6,6,6,6,6,6,6,6,6,6,6,6,6,6,6,6,6,6,6,6,6,6,6,6,6,6,7,7,7,7,7,7,7,7,7,7,7,7,7,7,7,7,7,7,7,7,7,7,7,7,7,7,7,7,7,7,7,7,7,7,7,7,7,7,7,7,7,7,7,7,7,7,7,7,7,7,7,7,7,7,7,7,7,7,7,7,7,7,7,7,8,8,8,8,8,8,8,8,8,8,8,8,8,8,8,8,8,8,8,8,8,8,8,8,8,8,8,8,8,8,8,8,8,8,8,8,8,8,8,8,8,8,8,8,8,8,8,8,8,8,8,8,8,8,8,8,8,8,8,8,8,8,8,8,8,8,8,8,8,8,8,8,8,8,8,8,8,8,8,8,8,8,8,8,8,8,8,8,8,8,8,8,8,8,8,8,8,8,8,8,8,8,8,8,8,8,8,8,8,8,8,8,8,8,8,8,8,8,8,8,8,8,8,8,8,8,8,8]⟩:ByteArray).size:Int)then(some (wrap64 (32+(wrap64 (bt (⟨#[0,1,2,2,3,3,3,3,4,4,4,4,4,4,4,4,5,5,5,5,5,5,5,5,5,5,5,5,5,5,5,5,6,6,6,6,6,6,6,6,6,6,6,6,6,6,6,6,6,6,6,6,6,6,6,6,6,6,6,6,6,6,6,6,7,7,7,7,7,7,7,7,7,7,7,7,7,7,7,7,7,7,7,7,7,7,7,7,7,7,7,7,7,7,7,7,7,7,7,7,7,7,7,7,7,7,7,7,7,7,7,7,7,7,7,7,7,7,7,7,7,7,7,7,7,7,7,7,8,8,8,8,8,8,8,8,8,8,8,8,8,8,8,8,8,8,8,8,8,8,8,8,8,8,8,8,8,8,8,8,8,8,8,8,8,8,8,8,8,8,8,8,8,8,8,8,8,8,8,8,8,8,8,8,8,8,8,8,8,8,8,8,8,8,8,8,8,8,8,8,8,8,8,8,8,8,8,8,8,8,8,8,8,8,8,8,8,8,8,8,8,8,8,8,8,8,8,8,8,8,8,8,8,8,8,8,8,8,8,8,8,8,8,8,8,8,8,8,8,8,8,8,8,8,8,8]⟩:ByteArray) (IntKind.u8.wrap (x0/4294967296)))))))else(none))else(none))))else(none))else(if x0≥65536 then(if(0:Int)≤16 then(if x0/65536≥256 then(if(0:Int)≤8 then(if 0≤IntKind.u8.wrap ((x0/65536)/256)then(if IntKind.u8.wrap ((x0/65536)/256)<((⟨#[0,1,2,2,3,3,3,3,4,4,4,4,4,4,4,4,5,5,5,5,5,5,5,5,5,5,5,5,5,5,5,5,6,6,6,6,6,6,6,6,6,6,6,6,6,6,6,6,6,6,6,6,6,6,6,6,6,6,6,6,6,6,6,6,7,7,7,7,7,7,7,7,7,7,7,7,7,7,7,7,7,7,7,7,7,7,7,7,7,7,7,7,7,7,7,7,7,7,7,7,7,7,7,7,7,7,7,7,7,7,7,7,7,7,7,7,7,7,7,7,7,7,7,7,7,7,7,7,8,8,8,8,8,8,8,8,8,8,8,8,8,8,8,8,8,8,8,8,8,8,8,8,8,8,8,8,8,8,8,8,8,8,8,8,8,8,8,8,8,8,8,8,8,8,8,8,8,8,8,8,8,8,8,8,8,8,8,8,8,8,8,8,8,8,8,8,8,8,8,8,8,8,8,8,8,8,8,8,8,8,8,8,8,8,8,8,8,8,8,8,8,8,8,8,8,8,8,8,8,8,8,8,8,8,8,8,8,8,8,8,8,8,8,8,8,8,8,8,8,8,8,8,8,8,8,8]⟩:ByteArray).size:Int)then(some (wrap64 (24+(wrap64 (bt (⟨#[0,1,2,2,3,3,3,3,4,4,4,4,4,4,4,4,5,5,5,5,5,5,5,5,5,5,5,5,5,5,5,5,6,6,6,6,6,6,6,6,6,6,6,6,6,6,6,6,6,6,6,6,6,6,6,6,6,6,6,6,6,6,6,6,7,7,7,7,7,7,7,7,7,7,7,7,7,7,7,7,7,7,7,7,7,7,7,7,7,7,7,7,7,7,7,7,7,7,7,7,7,7,7,7,7,7,7,7,7,7,7,7,7,7,7,7,7,7,7,7,7,7,7,7,7,7,7,7,8,8,8,8,8,8,8,8,8,8,8,8,8,8,8,8,8,8,8,8,8,8,8,8,8,8,8,8,8,8,8,8,8,8,8,8,8,8,8,8,8,8,8,8,8,8,8,8,8,8,8,8,8,8,8,8,8,8,8,8,8,8,8,8,8,8,8,8,8,8,8,8,8,8,8,8,8,8,8,8,8,8,8,8,8,8,8,8,8,8,8,8,8,8,8,8,8,8,8,8,8,8,8,8,8,8,8,8,8,8,8,8,8,8,8,8,8,8,8,8,8,8,8,8,8,8,8,8]⟩:ByteArray) (IntKind.u8.wrap ((x0/65536)/256)))))))else(none))else(none))else(none))else(if 0≤IntKind.u8.wrap (x0/65536)then(if IntKind.u8.wrap (x0/65536)<((⟨#[0,1,2,2,3,3,3,3,4,4,4,4,4,4,4,4,5,5,5,5,5,5,5,5,5,5,5,5,5,5,5,5,6,6,6,6,6,6,6,6,6,6,6,6,6,6,6,6,6,6,6,6,6,6,6,6,6,6,6,6,6,6,6,6,7,7,7,7,7,7,7,7,7,7,7,7,7,7,7,7,7,7,7,7,7,7,7,7,7,7,7,7,7,7,7,7,7,7,7,7,7,7,7,7,7,7,7,7,7,7,7,7,7,7,7,7,7,7,7,7,7,7,7,7,7,7,7,7,8,8,8,8,8,8,8,8,8,8,8,8,8,8,8,8,8,8,8,8,8,8,8,8,8,8,8,8,8,8,8,8,8,8,8,8,8,8,8,8,8,8,8,8,8,8,8,8,8,8,8,8,8,8,8,8,8,8,8,8,8,8,8,8,8,8,8,8,8,8,8,8,8,8,8,8,8,8,8,8,8,8,8,8,8,8,8,8,8,8,8,8,8,8,8,8,8,8,8,8,8,8,8,8,8,8,8,8,8,8,8,8,8,8,8,8,8,8,8,8,8,8,8,8,8,8,8,8]⟩:ByteArray).size:Int)then(some (wrap64 (16+(wrap64 (bt (⟨#[0,1,2,2,3,3,3,3,4,4,4,4,4,4,4,4,5,5,5,5,5,5,5,5,5,5,5,5,5,5,5,5,6,6,6,6,6,6,6,6,6,6,6,6,6,6,6,6,6,6,6,6,6,6,6,6,6,6,6,6,6,6,6,6,7,7,7,7,7,7,7,7,7,7,7,7,7,7,7,7,7,7,7,7,7,7,7,7,7,7,7,7,7,7,7,7,7,7,7,7,7,7,7,7,7,7,7,7,7,7,7,7,7,7,7,7,7,7,7,7,7,7,7,7,7,7,7,7,8,8,8,8,8,8,8,8,8,8,8,8,8,8,8,8,8,8,8,8,8,8,8,8,8,8,8,8,8,8,8,8,8,8,8,8,8,8,8,8,8,8,8,8,8,8,8,8,8,8,8,8,8,8,8,8,8,8,8,8,8,8,8,8,8,8,8,8,8,8,8,8,8,8,8,8,8,8,8,8,8,8,8,8,8,8,8,8,8,8,8,8,8,8,8,8,8,8,8,8,8,8,8,8,8,8,8,8,8,8,8,8,8,8,8,8,8,8,8,8,8,8,8,8,8,8,8,8]⟩:ByteArray) (IntKind.u8.wrap (x0/65536)))))))else(none))else(none)))else(none))else(if x0≥256 then(if(0:Int)≤8 then(if 0≤IntKind.u8.wrap (x0/256)then(if IntKind.u8.wrap (x0/256)<((⟨#[0,1,2,2,3,3,3,3,4,4,4,4,4,4,4,4,5,5,5,5,5,5,5,5,5,5,5,5,5,5,5,5,6,6,6,6,6,6,6,6,6,6,6,6,6,6,6,6,6,6,6,6,6,6,6,6,6,6,6,6,6,6,6,6,7,7,7,7,7,7,7,7,7,7,7,7,7,7,7,7,7,7,7,7,7,7,7,7,7,7,7,7,7,7,7,7,7,7,7,7,7,7,7,7,7,7,7,7,7,7,7,7,7,7,7,7,7,7,7,7,7,7,7,7,7,7,7,7,8,8,8,8,8,8,8,8,8,8,8,8,8,8,8,8,8,8,8,8,8,8,8,8,8,8,8,8,8,8,8,8,8,8,8,8,8,8,8,8,8,8,8,8,8,8,8,8,8,8,8,8,8,8,8,8,8,8,8,8,8,8,8,8,8,8,8,8,8,8,8,8,8,8,8,8,8,8,8,8,8,8,8,8,8,8,8,8,8,8,8,8,8,8,8,8,8,8,8,8,8,8,8,8,8,8,8,8,8,8,8,8,8,8,8,8,8,8,8,8,8,8,8,8,8,8,8,8]⟩:ByteArray).size:Int)then(some (wrap64 (8+(wrap64 (bt (⟨#[0,1,2,2,3,3,3,3,4,4,4,4,4,4,4,4,5,5,5,5,5,5,5,5,5,5,5,5,5,5,5,5,6,6,6,6,6,6,6,6,6,6,6,6,6,6,6,6,6,6,6,6,6,6,6,6,6,6,6,6,6,6,6,6,7,7,7,7,7,7,7,7,7,7,7,7,7,7,7,7,7,7,7,7,7,7,7,7,7,7,7,7,7,7,7,7,7,7,7,7,7,7,7,7,7,7,7,7,7,7,7,7,7,7,7,7,7,7,7,7,7,7,7,7,7,7,7,7,8,8,8,8,8,8,8,8,8,8,8,8,8,8,8,8,8,8,8,8,8,8,8,8,8,8,8,8,8,8,8,8,8,8,8,8,8,8,8,8,8,8,8,8,8,8,8,8,8,8,8,8,8,8,8,8,8,8,8,8,8,8,8,8,8,8,8,8,8,8,8,8,8,8,8,8,8,8,8,8,8,8,8,8,8,8,8,8,8,8,8,8,8,8,8,8,8,8,8,8,8,8,8,8,8,8,8,8,8,8,8,8,8,8,8,8,8,8,8,8,8,8,8,8,8,8,8,8]⟩:ByteArray) (IntKind.u8.wrap (x0/256)))))))else(none))else(none))else(none))else(if 0≤IntKind.u8.wrap (x0)then(if IntKind.u8.wrap (x0)<((⟨#[0,1,2,2,3,3,3,3,4,4,4,4,4,4,4,4,5,5,5,5,5,5,5,5,5,5,5,5,5,5,5,5,6,6,6,6,6,6,6,6,6,6,6,6,6,6,6,6,6,6,6,6,6,6,6,6,6,6,6,6,6,6,6,6,7,7,7,7,7,7,7,7,7,7,7,7,7,7,7,7,7,7,7,7,7,7,7,7,7,7,7,7,7,7,7,7,7,7,7,7,7,7,7,7,7,7,7,7,7,7,7,7,7,7,7,7,7,7,7,7,7,7,7,7,7,7,7,7,8,8,8,8,8,8,8,8,8,8,8,8,8,8,8,8,8,8,8,8,8,8,8,8,8,8,8,8,8,8,8,8,8,8,8,8,8,8,8,8,8,8,8,8,8,8,8,8,8,8,8,8,8,8,8,8,8,8,8,8,8,8,8,8,8,8,8,8,8,8,8,8,8,8,8,8,8,8,8,8,8,8,8,8,8,8,8,8,8,8,8,8,8,8,8,8,8,8,8,8,8,8,8,8,8,8,8,8,8,8,8,8,8,8,8,8,8,8,8,8,8,8,8,8,8,8,8,8]⟩:ByteArray).size:Int)then(some (wrap64 (0+(wrap64 (bt (⟨#[0,1,2,2,3,3,3,3,4,4,4,4,4,4,4,4,5,5,5,5,5,5,5,5,5,5,5,5,5,5,5,5,6,6,6,6,6,6,6,6,6,6,6,6,6,6,6,6,6,6,6,6,6,6,6,6,6,6,6,6,6,6,6,6,7,7,7,7,7,7,7,7,7,7,7,7,7,7,7,7,7,7,7,7,7,7,7,7,7,7,7,7,7,7,7,7,7,7,7,7,7,7,7,7,7,7,7,7,7,7,7,7,7,7,7,7,7,7,7,7,7,7,7,7,7,7,7,7,8,8,8,8,8,8,8,8,8,8,8,8,8,8,8,8,8,8,8,8,8,8,8,8,8,8,8,8,8,8,8,8,8,8,8,8,8,8,8,8,8,8,8,8,8,8,8,8,8,8,8,8,8,8,8,8,8,8,8,8,8,8,8,8,8,8,8,8,8,8,8,8,8,8,8,8,8,8,8,8,8,8,8,8,8,8,8,8,8,8,8,8,8,8,8,8,8,8,8,8,8,8,8,8,8,8,8,8,8,8,8,8,8,8,8,8,8,8,8,8,8,8,8,8,8,8,8,8]⟩:ByteArray) (IntKind.u8.wrap (x0)))))))else(none))else(none))))
theorem e297 (s:ask297.T):evFn E0 (orcOf (fes297)) an297 (loOf (les297)) 25 cd297 Tryz.f297.results.toList rm297 (ask297.mk' s) (decW rsk297 dec297)=B297 s.1.1:=by kernel_rfl
noncomputable def an278:Ann:=⟨[],[],[]⟩
noncomputable def cd278:Code:=(Tryz.f278.body).getD .skip
noncomputable def rm278:List RM:=[.d (.it .i64)]
noncomputable def les278:List (LoE R278):=[]
noncomputable def fes278 (c297:Int→Option R297):List FE:=[(fe297 c297)]
section
variable (c297:Int→Option R297)
noncomputable def B278 (x0:Int):Option R278:=(c297 x0).bind fun r1=>(some (wrap64 (64-r1)))
theorem e278 (s:ask278.T):evFn E0 (orcOf (fes278 c297)) an278 (loOf (les278)) 6 cd278 Tryz.f278.results.toList rm278 (ask278.mk' s) (decW rsk278 dec278)=B278 c297 s.1.1:=by kernel_rfl
end
noncomputable def an277:Ann:=⟨[(17,[(2, .any),(8, .any),(9, .any),(10, .any),(11, .any),(13, .any),(14, .any),(15, .any),(16, .any)]),(24,[(2, .any),(8, .any),(9, .any),(10, .any),(14, .any),(15, .any),(16, .any),(17, .any),(18, .any)])],[],[]⟩
noncomputable def cd277:Code:=(Tryz.f277.body).getD .skip
noncomputable def p277:List Pos:=posns an277 [] cd277
noncomputable def rm277:List RM:=[.d (.it .u64), .d (.it .u64)]
noncomputable def rk277 (s0:SbT ask277.bl):KX R277:=retK E0 Tryz.f277.results.toList rm277 (mkB ask277.bl s0) (decW rsk277 dec277)
noncomputable def k277l0:Sk:=⟨[(2, .d (.it .u64)),(8, .d (.it .u64)),(9, .d (.it .u64)),(10, .d (.it .u64)),(11, .d (.it .u64)),(13, .d (.it .u64)),(14, .d (.it .u64)),(15, .d (.it .u64)),(16, .d (.it .u64))],[]⟩
noncomputable def k277l1:Sk:=⟨[(2, .d (.it .u64)),(8, .d (.it .u64)),(9, .d (.it .u64)),(10, .d (.it .u64)),(14, .d (.it .u64)),(15, .d (.it .u64)),(16, .d (.it .u64)),(17, .d (.it .u64)),(18, .d (.it .u64))],[]⟩
noncomputable def les277 (gl0:Int→Int→Int→Int→Int→Int→Int→Int→Int→Option R277) (gl1:Int→Int→Int→Int→Int→Int→Int→Int→Int→Option R277):List (LoE R277):=[⟨17,k277l0,fun s=>gl0 s.1.1 s.1.2.1 s.1.2.2.1 s.1.2.2.2.1 s.1.2.2.2.2.1 s.1.2.2.2.2.2.1 s.1.2.2.2.2.2.2.1 s.1.2.2.2.2.2.2.2.1 s.1.2.2.2.2.2.2.2.2.1⟩,⟨24,k277l1,fun s=>gl1 s.1.1 s.1.2.1 s.1.2.2.1 s.1.2.2.2.1 s.1.2.2.2.2.1 s.1.2.2.2.2.2.1 s.1.2.2.2.2.2.2.1 s.1.2.2.2.2.2.2.2.1 s.1.2.2.2.2.2.2.2.2.1⟩]
noncomputable def fes277 (c278:Int→Option R278):List FE:=[(fe278 c278)]
section
variable (gl0:Int→Int→Int→Int→Int→Int→Int→Int→Int→Option R277) (gl1:Int→Int→Int→Int→Int→Int→Int→Int→Int→Option R277) (c278:Int→Option R278)
noncomputable def B277l0 (x2:Int) (x8:Int) (x9:Int) (x10:Int) (x11:Int) (x13:Int) (x14:Int) (x15:Int) (x16:Int):Option R277:=if x15≥4294967296 then(if IntKind.u64.wrap (x16+x9)≥4294967296 then(if x9=0 then(none)else(gl1 x2 x8 x9 x10 x14 (IntKind.u64.wrap (x15-1)) (IntKind.u64.wrap ((IntKind.u64.wrap ((IntKind.u64.wrap ((IntKind.u64.wrap (x11*4294967296))+x13))-(IntKind.u64.wrap ((IntKind.u64.wrap (x15-1))*x2))))-(IntKind.u64.wrap ((IntKind.u64.wrap (Int.tdiv (IntKind.u64.wrap ((IntKind.u64.wrap ((IntKind.u64.wrap (x11*4294967296))+x13))-(IntKind.u64.wrap ((IntKind.u64.wrap (x15-1))*x2)))) x9))*x9)))) (IntKind.u64.wrap ((IntKind.u64.wrap ((IntKind.u64.wrap (x11*4294967296))+x13))-(IntKind.u64.wrap ((IntKind.u64.wrap (x15-1))*x2)))) (IntKind.u64.wrap (Int.tdiv (IntKind.u64.wrap ((IntKind.u64.wrap ((IntKind.u64.wrap (x11*4294967296))+x13))-(IntKind.u64.wrap ((IntKind.u64.wrap (x15-1))*x2)))) x9))))else(gl0 x2 x8 x9 x10 x11 x13 x14 (IntKind.u64.wrap (x15-1)) (IntKind.u64.wrap (x16+x9))))else(if IntKind.u64.wrap (x15*x10)>IntKind.u64.wrap ((IntKind.u64.wrap (4294967296*x16))+x13)then(if IntKind.u64.wrap (x16+x9)≥4294967296 then(if x9=0 then(none)else(gl1 x2 x8 x9 x10 x14 (IntKind.u64.wrap (x15-1)) (IntKind.u64.wrap ((IntKind.u64.wrap ((IntKind.u64.wrap ((IntKind.u64.wrap (x11*4294967296))+x13))-(IntKind.u64.wrap ((IntKind.u64.wrap (x15-1))*x2))))-(IntKind.u64.wrap ((IntKind.u64.wrap (Int.tdiv (IntKind.u64.wrap ((IntKind.u64.wrap ((IntKind.u64.wrap (x11*4294967296))+x13))-(IntKind.u64.wrap ((IntKind.u64.wrap (x15-1))*x2)))) x9))*x9)))) (IntKind.u64.wrap ((IntKind.u64.wrap ((IntKind.u64.wrap (x11*4294967296))+x13))-(IntKind.u64.wrap ((IntKind.u64.wrap (x15-1))*x2)))) (IntKind.u64.wrap (Int.tdiv (IntKind.u64.wrap ((IntKind.u64.wrap ((IntKind.u64.wrap (x11*4294967296))+x13))-(IntKind.u64.wrap ((IntKind.u64.wrap (x15-1))*x2)))) x9))))else(gl0 x2 x8 x9 x10 x11 x13 x14 (IntKind.u64.wrap (x15-1)) (IntKind.u64.wrap (x16+x9))))else(if x9=0 then(none)else(gl1 x2 x8 x9 x10 x14 x15 (IntKind.u64.wrap ((IntKind.u64.wrap ((IntKind.u64.wrap ((IntKind.u64.wrap (x11*4294967296))+x13))-(IntKind.u64.wrap (x15*x2))))-(IntKind.u64.wrap ((IntKind.u64.wrap (Int.tdiv (IntKind.u64.wrap ((IntKind.u64.wrap ((IntKind.u64.wrap (x11*4294967296))+x13))-(IntKind.u64.wrap (x15*x2)))) x9))*x9)))) (IntKind.u64.wrap ((IntKind.u64.wrap ((IntKind.u64.wrap (x11*4294967296))+x13))-(IntKind.u64.wrap (x15*x2)))) (IntKind.u64.wrap (Int.tdiv (IntKind.u64.wrap ((IntKind.u64.wrap ((IntKind.u64.wrap (x11*4294967296))+x13))-(IntKind.u64.wrap (x15*x2)))) x9)))))
theorem e277l0 (s0:SbT ask277.bl) (s:k277l0.T):evPos E0 (orcOf (fes277 c278)) 135 an277 (loOf (les277 gl0 gl1)) (rk277 s0) (p277.getD 0 ⟨0,[], .skip⟩) (k277l0.mk' s)=B277l0 gl0 gl1 s.1.1 s.1.2.1 s.1.2.2.1 s.1.2.2.2.1 s.1.2.2.2.2.1 s.1.2.2.2.2.2.1 s.1.2.2.2.2.2.2.1 s.1.2.2.2.2.2.2.2.1 s.1.2.2.2.2.2.2.2.2.1:=by kernel_rfl
noncomputable def B277l1 (x2:Int) (x8:Int) (x9:Int) (x10:Int) (x14:Int) (x15:Int) (x16:Int) (x17:Int) (x18:Int):Option R277:=if x18≥4294967296 then(if IntKind.u64.wrap (x16+x9)≥4294967296 then(if 0≤x8 then(some (IntKind.u64.wrap ((IntKind.u64.wrap (x15*4294967296))+(IntKind.u64.wrap (x18-1))),shr .u64 (IntKind.u64.wrap ((IntKind.u64.wrap ((IntKind.u64.wrap (x17*4294967296))+x14))-(IntKind.u64.wrap ((IntKind.u64.wrap (x18-1))*x2)))) x8))else(none))else(gl1 x2 x8 x9 x10 x14 x15 (IntKind.u64.wrap (x16+x9)) x17 (IntKind.u64.wrap (x18-1))))else(if IntKind.u64.wrap (x18*x10)>IntKind.u64.wrap ((IntKind.u64.wrap (4294967296*x16))+x14)then(if IntKind.u64.wrap (x16+x9)≥4294967296 then(if 0≤x8 then(some (IntKind.u64.wrap ((IntKind.u64.wrap (x15*4294967296))+(IntKind.u64.wrap (x18-1))),shr .u64 (IntKind.u64.wrap ((IntKind.u64.wrap ((IntKind.u64.wrap (x17*4294967296))+x14))-(IntKind.u64.wrap ((IntKind.u64.wrap (x18-1))*x2)))) x8))else(none))else(gl1 x2 x8 x9 x10 x14 x15 (IntKind.u64.wrap (x16+x9)) x17 (IntKind.u64.wrap (x18-1))))else(if 0≤x8 then(some (IntKind.u64.wrap ((IntKind.u64.wrap (x15*4294967296))+x18),shr .u64 (IntKind.u64.wrap ((IntKind.u64.wrap ((IntKind.u64.wrap (x17*4294967296))+x14))-(IntKind.u64.wrap (x18*x2)))) x8))else(none)))
theorem e277l1 (s0:SbT ask277.bl) (s:k277l1.T):evPos E0 (orcOf (fes277 c278)) 135 an277 (loOf (les277 gl0 gl1)) (rk277 s0) (p277.getD 1 ⟨0,[], .skip⟩) (k277l1.mk' s)=B277l1 gl1 s.1.1 s.1.2.1 s.1.2.2.1 s.1.2.2.2.1 s.1.2.2.2.2.1 s.1.2.2.2.2.2.1 s.1.2.2.2.2.2.2.1 s.1.2.2.2.2.2.2.2.1 s.1.2.2.2.2.2.2.2.2.1:=by kernel_rfl
noncomputable def B277 (x0:Int) (x1:Int) (x2:Int):Option R277:=if x2=0 then(none)else(if x2≤x0 then(none)else(if x0=0 then(if x2=0 then(none)else(if x2=0 then(none)else(some (IntKind.u64.wrap (Int.tdiv x1 x2),Int.tmod x1 x2))))else((c278 x2).bind fun r1=>(if 0≤IntKind.u64.wrap (r1)then(if(0:Int)≤32 then(if 0≤IntKind.u64.wrap (r1)then(if 0≤IntKind.u64.wrap (64-(IntKind.u64.wrap (r1)))then(if 0≤IntKind.u64.wrap (r1)then(if(0:Int)≤32 then(if(shl .u64 x2 (IntKind.u64.wrap (r1)))/4294967296=0 then(none)else(gl0 (shl .u64 x2 (IntKind.u64.wrap (r1))) (IntKind.u64.wrap (r1)) ((shl .u64 x2 (IntKind.u64.wrap (r1)))/4294967296) (Go.bits .and .u64 (shl .u64 x2 (IntKind.u64.wrap (r1))) 4294967295) (Go.bits .or .u64 (shl .u64 x0 (IntKind.u64.wrap (r1))) (shr .u64 x1 (IntKind.u64.wrap (64-(IntKind.u64.wrap (r1)))))) ((shl .u64 x1 (IntKind.u64.wrap (r1)))/4294967296) (Go.bits .and .u64 (shl .u64 x1 (IntKind.u64.wrap (r1))) 4294967295) (IntKind.u64.wrap (Int.tdiv (Go.bits .or .u64 (shl .u64 x0 (IntKind.u64.wrap (r1))) (shr .u64 x1 (IntKind.u64.wrap (64-(IntKind.u64.wrap (r1)))))) ((shl .u64 x2 (IntKind.u64.wrap (r1)))/4294967296))) (IntKind.u64.wrap ((Go.bits .or .u64 (shl .u64 x0 (IntKind.u64.wrap (r1))) (shr .u64 x1 (IntKind.u64.wrap (64-(IntKind.u64.wrap (r1))))))-(IntKind.u64.wrap ((IntKind.u64.wrap (Int.tdiv (Go.bits .or .u64 (shl .u64 x0 (IntKind.u64.wrap (r1))) (shr .u64 x1 (IntKind.u64.wrap (64-(IntKind.u64.wrap (r1)))))) ((shl .u64 x2 (IntKind.u64.wrap (r1)))/4294967296)))*((shl .u64 x2 (IntKind.u64.wrap (r1)))/4294967296)))))))else(none))else(none))else(none))else(none))else(none))else(none)))))
theorem e277 (s:ask277.T):evFn E0 (orcOf (fes277 c278)) an277 (loOf (les277 gl0 gl1)) 135 cd277 Tryz.f277.results.toList rm277 (ask277.mk' s) (decW rsk277 dec277)=B277 gl0 c278 s.1.1 s.1.2.1 s.1.2.2.1:=by kernel_rfl
end
noncomputable def an279:Ann:=⟨[(3,[(1, .any),(5, .any),(12, .any),(13, .any),(14, .any)])],[],[]⟩
noncomputable def cd279:Code:=(Tryz.f279.body).getD .skip
noncomputable def p279:List Pos:=posns an279 [] cd279
noncomputable def rm279:List RM:=[.own (.it .u64)]
noncomputable def rk279 (s0:SbT ask279.bl):KX R279:=retK E0 Tryz.f279.results.toList rm279 (mkB ask279.bl s0) (decW rsk279 dec279)
noncomputable def k279l0:Sk:=⟨[(1, .d (.it .i64)),(5, .f (.a (.ref 5))),(12, .d (.li (.it .u64))),(13, .d (.it .i64)),(14, .d (.it .i64))],[(5, .own (.it .u64) true)]⟩
noncomputable def les279 (gl0:Int→(List Int)→Int→Int→(List Int)→Option R279):List (LoE R279):=[⟨3,k279l0,fun s=>gl0 s.1.1 s.1.2.1 s.1.2.2.1 s.1.2.2.2.1 s.2.1⟩]
noncomputable def fes279:List FE:=[]
section
variable (gl0:Int→(List Int)→Int→Int→(List Int)→Option R279)
noncomputable def B279l0 (x1:Int) (x12:(List Int)) (x13:Int) (x14:Int) (x5:(List Int)):Option R279:=if x14<x13 then(if 0≤x14 then(if x14<(x12.length:Int)then(if 0≤x14 then(if x14<(x5.length:Int)then(if 0≤x1 then(if 0≤x14 then(if x14<(x5.length:Int)then(if x1>0 then(if 0≤wrap64 (64-x1)then(if 0≤wrap64 (x14+1)then(if wrap64 (x14+1)<((x5.set (x14:Int).toNat (Go.bits .or .u64 (rd x5 x14) (shl .u64 (rd x12 x14) x1))).length:Int)then(gl0 x1 x12 x13 (wrap64 (x14+1)) ((x5.set (x14:Int).toNat (Go.bits .or .u64 (rd x5 x14) (shl .u64 (rd x12 x14) x1))).set (wrap64 (x14+1):Int).toNat (shr .u64 (rd x12 x14) (wrap64 (64-x1)))))else(none))else(none))else(none))else(gl0 x1 x12 x13 (wrap64 (x14+1)) (x5.set (x14:Int).toNat (Go.bits .or .u64 (rd x5 x14) (shl .u64 (rd x12 x14) x1)))))else(none))else(none))else(none))else(none))else(none))else(none))else(none))else(some x5)
theorem e279l0 (s0:SbT ask279.bl) (s:k279l0.T):evPos E0 (orcOf (fes279)) 40 an279 (loOf (les279 gl0)) (rk279 s0) (p279.getD 0 ⟨0,[], .skip⟩) (k279l0.mk' s)=B279l0 gl0 s.1.1 s.1.2.1 s.1.2.2.1 s.1.2.2.2.1 s.2.1:=by kernel_rfl
noncomputable def B279 (x0:(List Int)) (x1:Int):Option R279:=if 0≤wrap64 ((x0.length:Int)+1)then(if wrap64 ((x0.length:Int)+1)≤wrap64 ((x0.length:Int)+1)then(if(wrap64 ((x0.length:Int)+1):Int).toNat≤35184372088832 then(gl0 x1 x0 (x0.length:Int) 0 (List.replicate (wrap64 ((x0.length:Int)+1):Int).toNat (0:Int)))else(none))else(none))else(none)
theorem e279 (s:ask279.T):evFn E0 (orcOf (fes279)) an279 (loOf (les279 gl0)) 40 cd279 Tryz.f279.results.toList rm279 (ask279.mk' s) (decW rsk279 dec279)=B279 gl0 s.1.1 s.1.2.1:=by kernel_rfl
end
noncomputable def an246:Ann:=⟨[],[],[]⟩
noncomputable def cd246:Code:=(Tryz.f246.body).getD .skip
noncomputable def rm246:List RM:=[.d (.it .u64), .d (.it .u64)]
noncomputable def les246:List (LoE R246):=[]
noncomputable def fes246:List FE:=[]
noncomputable def B246 (x0:Int) (x1:Int):Option R246:=if(0:Int)≤32 then(if(0:Int)≤32 then(if(0:Int)≤32 then(if(0:Int)≤32 then(if(0:Int)≤32 then(some (IntKind.u64.wrap ((IntKind.u64.wrap ((IntKind.u64.wrap ((x0/4294967296)*(x1/4294967296)))+((IntKind.u64.wrap ((IntKind.u64.wrap ((x0/4294967296)*(Go.bits .and .u64 x1 4294967295)))+((IntKind.u64.wrap ((Go.bits .and .u64 x0 4294967295)*(Go.bits .and .u64 x1 4294967295)))/4294967296)))/4294967296)))+((IntKind.u64.wrap ((Go.bits .and .u64 (IntKind.u64.wrap ((IntKind.u64.wrap ((x0/4294967296)*(Go.bits .and .u64 x1 4294967295)))+((IntKind.u64.wrap ((Go.bits .and .u64 x0 4294967295)*(Go.bits .and .u64 x1 4294967295)))/4294967296))) 4294967295)+(IntKind.u64.wrap ((Go.bits .and .u64 x0 4294967295)*(x1/4294967296)))))/4294967296)),IntKind.u64.wrap (x0*x1)))else(none))else(none))else(none))else(none))else(none)
theorem e246 (s:ask246.T):evFn E0 (orcOf (fes246)) an246 (loOf (les246)) 51 cd246 Tryz.f246.results.toList rm246 (ask246.mk' s) (decW rsk246 dec246)=B246 s.1.1 s.1.2.1:=by kernel_rfl
noncomputable def an280:Ann:=⟨[(8,[(0, .any),(1, .any),(5, .any),(6, .any),(7, .any),(8, .any)]),(15,[(0, .any),(1, .any),(5, .any),(6, .any),(11, .any),(12, .any),(104, .any),(105, .any)]),(28,[(0, .any),(1, .any),(5, .any),(6, .any),(17, .any),(156, .any),(157, .any)])],[],[]⟩
noncomputable def cd280:Code:=(Tryz.f280.body).getD .skip
noncomputable def p280:List Pos:=posns an280 [] cd280
noncomputable def rm280:List RM:=[.d (.it .u64)]
noncomputable def rk280 (s0:SbT ask280.bl):KX R280:=retK E0 Tryz.f280.results.toList rm280 (mkB ask280.bl s0) (decW rsk280 dec280)
noncomputable def k280l0:Sk:=⟨[(0, .f (.a (.ref 2000))),(1, .d (.li (.it .u64))),(5, .d (.it .i64)),(6, .d (.it .u64)),(7, .d (.it .u64)),(8, .d (.it .u64))],[(2000, .own (.it .u64) false)]⟩
noncomputable def k280l1:Sk:=⟨[(0, .f (.a (.ref 2000))),(1, .d (.li (.it .u64))),(5, .d (.it .i64)),(6, .d (.it .u64)),(11, .d (.it .u64)),(12, .d (.it .u64)),(104, .d (.it .i64)),(105, .d (.it .i64))],[(2000, .own (.it .u64) false)]⟩
noncomputable def k280l2:Sk:=⟨[(0, .f (.a (.ref 2000))),(1, .d (.li (.it .u64))),(5, .d (.it .i64)),(6, .d (.it .u64)),(17, .d (.it .u64)),(156, .d (.it .i64)),(157, .d (.it .i64))],[(2000, .own (.it .u64) false)]⟩
noncomputable def les280 (gl0:(List Int)→Int→Int→Int→Int→(List Int)→Option R280) (gl1:(List Int)→Int→Int→Int→Int→Int→Int→(List Int)→Option R280) (gl2:(List Int)→Int→Int→Int→Int→Int→(List Int)→Option R280):List (LoE R280):=[⟨8,k280l0,fun s=>gl0 s.1.1 s.1.2.1 s.1.2.2.1 s.1.2.2.2.1 s.1.2.2.2.2.1 s.2.1⟩,⟨15,k280l1,fun s=>gl1 s.1.1 s.1.2.1 s.1.2.2.1 s.1.2.2.2.1 s.1.2.2.2.2.1 s.1.2.2.2.2.2.1 s.1.2.2.2.2.2.2.1 s.2.1⟩,⟨28,k280l2,fun s=>gl2 s.1.1 s.1.2.1 s.1.2.2.1 s.1.2.2.2.1 s.1.2.2.2.2.1 s.1.2.2.2.2.2.1 s.2.1⟩]
noncomputable def fes280 (c246:Int→Int→Option R246) (c247:Int→Int→Int→Option R247) (c248:Int→Int→Int→Option R248) (c277:Int→Int→Int→Option R277):List FE:=[(fe246 c246),(fe247 c247),(fe248 c248),(fe277 c277)]
section
variable (gl0:(List Int)→Int→Int→Int→Int→(List Int)→Option R280) (gl1:(List Int)→Int→Int→Int→Int→Int→Int→(List Int)→Option R280) (gl2:(List Int)→Int→Int→Int→Int→Int→(List Int)→Option R280) (c246:Int→Int→Option R246) (c247:Int→Int→Int→Option R247) (c248:Int→Int→Int→Option R248) (c277:Int→Int→Int→Option R277)
noncomputable def B280l0 (x1:(List Int)) (x5:Int) (x6:Int) (x7:Int) (x8:Int) (y0:(List Int)):Option R280:=if x8=0 then(if 0≤wrap64 (x5-2)then(if wrap64 (x5-2)<(x1.length:Int)then((c246 x6 (rd x1 (wrap64 (x5-2)))).bind fun r1=>(if r1.1<x7 then(gl1 x1 x5 x6 0 0 x5 0 y0)else(if r1.1=x7 then(if 0≤wrap64 (x5-2)then(if wrap64 (x5-2)<(y0.length:Int)then(if r1.2≤rd y0 (wrap64 (x5-2))then(gl1 x1 x5 x6 0 0 x5 0 y0)else(if 0≤wrap64 (x5-1)then(if wrap64 (x5-1)<(x1.length:Int)then((c247 x7 (rd x1 (wrap64 (x5-1))) 0).bind fun r2=>(gl0 x1 x5 (IntKind.u64.wrap (x6-1)) r2.1 r2.2 y0))else(none))else(none)))else(none))else(none))else(if 0≤wrap64 (x5-1)then(if wrap64 (x5-1)<(x1.length:Int)then((c247 x7 (rd x1 (wrap64 (x5-1))) 0).bind fun r3=>(gl0 x1 x5 (IntKind.u64.wrap (x6-1)) r3.1 r3.2 y0))else(none))else(none)))))else(none))else(none))else(gl1 x1 x5 x6 0 0 x5 0 y0)
theorem e280l0 (s0:SbT ask280.bl) (s:k280l0.T):evPos E0 (orcOf (fes280 c246 c247 c248 c277)) 186 an280 (loOf (les280 gl0 gl1 gl2)) (rk280 s0) (p280.getD 0 ⟨0,[], .skip⟩) (k280l0.mk' s)=B280l0 gl0 gl1 c246 c247 s.1.1 s.1.2.1 s.1.2.2.1 s.1.2.2.2.1 s.1.2.2.2.2.1 s.2.1:=by kernel_rfl
noncomputable def B280l1 (x1:(List Int)) (x5:Int) (x6:Int) (x11:Int) (x12:Int) (x104:Int) (x105:Int) (y0:(List Int)):Option R280:=if x105<x104 then(if 0≤x105 then(if x105<(x1.length:Int)then((c246 x6 (rd x1 x105)).bind fun r1=>((c247 r1.2 x12 0).bind fun r2=>(if 0≤x105 then(if x105<(y0.length:Int)then((c248 (rd y0 x105) r2.1 x11).bind fun r3=>(if 0≤x105 then(if x105<(y0.length:Int)then(gl1 x1 x5 x6 r3.2 (IntKind.u64.wrap (r1.1+r2.2)) x104 (wrap64 (x105+1)) (y0.set (x105:Int).toNat r3.1))else(none))else(none)))else(none))else(none))))else(none))else(none))else(if 0≤x5 then(if x5<(y0.length:Int)then((c248 (rd y0 x5) x12 x11).bind fun r4=>(if 0≤x5 then(if x5<(y0.length:Int)then(if r4.2=0 then(some (x6,y0.set (x5:Int).toNat r4.1))else(gl2 x1 x5 x6 0 x5 0 (y0.set (x5:Int).toNat r4.1)))else(none))else(none)))else(none))else(none))
theorem e280l1 (s0:SbT ask280.bl) (s:k280l1.T):evPos E0 (orcOf (fes280 c246 c247 c248 c277)) 186 an280 (loOf (les280 gl0 gl1 gl2)) (rk280 s0) (p280.getD 1 ⟨0,[], .skip⟩) (k280l1.mk' s)=B280l1 gl1 gl2 c246 c247 c248 s.1.1 s.1.2.1 s.1.2.2.1 s.1.2.2.2.1 s.1.2.2.2.2.1 s.1.2.2.2.2.2.1 s.1.2.2.2.2.2.2.1 s.2.1:=by kernel_rfl
noncomputable def B280l2 (x1:(List Int)) (x5:Int) (x6:Int) (x17:Int) (x156:Int) (x157:Int) (y0:(List Int)):Option R280:=if x157<x156 then(if 0≤x157 then(if x157<(y0.length:Int)then(if 0≤x157 then(if x157<(x1.length:Int)then((c247 (rd y0 x157) (rd x1 x157) x17).bind fun r1=>(if 0≤x157 then(if x157<(y0.length:Int)then(gl2 x1 x5 x6 r1.2 x156 (wrap64 (x157+1)) (y0.set (x157:Int).toNat r1.1))else(none))else(none)))else(none))else(none))else(none))else(none))else(if 0≤x5 then(if x5<(y0.length:Int)then(if 0≤x5 then(if x5<(y0.length:Int)then(some (IntKind.u64.wrap (x6-1),y0.set (x5:Int).toNat (IntKind.u64.wrap ((rd y0 x5)+x17))))else(none))else(none))else(none))else(none))
theorem e280l2 (s0:SbT ask280.bl) (s:k280l2.T):evPos E0 (orcOf (fes280 c246 c247 c248 c277)) 186 an280 (loOf (les280 gl0 gl1 gl2)) (rk280 s0) (p280.getD 2 ⟨0,[], .skip⟩) (k280l2.mk' s)=B280l2 gl2 c247 s.1.1 s.1.2.1 s.1.2.2.1 s.1.2.2.2.1 s.1.2.2.2.2.1 s.1.2.2.2.2.2.1 s.2.1:=by kernel_rfl
noncomputable def B280 (x1:(List Int)) (y0:(List Int)):Option R280:=if 0≤(x1.length:Int)then(if(x1.length:Int)<(y0.length:Int)then(if 0≤wrap64 ((x1.length:Int)-1)then(if wrap64 ((x1.length:Int)-1)<(x1.length:Int)then(if rd y0 (x1.length:Int)≥rd x1 (wrap64 ((x1.length:Int)-1))then(if 0≤wrap64 ((x1.length:Int)-1)then(if wrap64 ((x1.length:Int)-1)<(y0.length:Int)then(if 0≤wrap64 ((x1.length:Int)-1)then(if wrap64 ((x1.length:Int)-1)<(x1.length:Int)then((c247 (rd y0 (wrap64 ((x1.length:Int)-1))) (rd x1 (wrap64 ((x1.length:Int)-1))) 0).bind fun r1=>(gl0 x1 (x1.length:Int) 18446744073709551615 r1.1 r1.2 y0))else(none))else(none))else(none))else(none))else(if 0≤(x1.length:Int)then(if(x1.length:Int)<(y0.length:Int)then(if 0≤wrap64 ((x1.length:Int)-1)then(if wrap64 ((x1.length:Int)-1)<(y0.length:Int)then(if 0≤wrap64 ((x1.length:Int)-1)then(if wrap64 ((x1.length:Int)-1)<(x1.length:Int)then((c277 (rd y0 (x1.length:Int)) (rd y0 (wrap64 ((x1.length:Int)-1))) (rd x1 (wrap64 ((x1.length:Int)-1)))).bind fun r2=>(gl0 x1 (x1.length:Int) r2.1 r2.2 0 y0))else(none))else(none))else(none))else(none))else(none))else(none)))else(none))else(none))else(none))else(none)
theorem e280 (s:ask280.T):evFn E0 (orcOf (fes280 c246 c247 c248 c277)) an280 (loOf (les280 gl0 gl1 gl2)) 186 cd280 Tryz.f280.results.toList rm280 (ask280.mk' s) (decW rsk280 dec280)=B280 gl0 c247 c277 s.1.1 s.2.1:=by kernel_rfl
end
noncomputable def an244:Ann:=⟨[(7,[(0, .any),(1, .any),(6, .any),(7, .any),(8, .any)]),(17,[(9, .any),(10, .val (.li (.it .u64))),(11, .any),(12, .any),(13, .any),(14, .any)]),(21,[(9, .any),(11, .any),(12, .any),(13, .any),(96, .any),(97, .any)])],[],[]⟩
noncomputable def cd244:Code:=(Tryz.f244.body).getD .skip
noncomputable def p244:List Pos:=posns an244 [] cd244
noncomputable def rm244:List RM:=[.d (.li (.it .u64)), .d (.li (.it .u64))]
noncomputable def rk244 (s0:SbT ask244.bl):KX R244:=retK E0 Tryz.f244.results.toList rm244 (mkB ask244.bl s0) (decW rsk244 dec244)
noncomputable def k244l0:Sk:=⟨[(0, .d (.li (.it .u64))),(1, .d (.li (.it .u64))),(6, .f (.a (.ref 6))),(7, .d (.it .u64)),(8, .d (.it .i64))],[(6, .own (.it .u64) true)]⟩
noncomputable def k244l1:Sk:=⟨[(9, .d (.it .i64)),(10, .d (.li (.it .u64))),(11, .f (.a (.ref 11))),(12, .d (.it .i64)),(13, .f (.a (.ref 13))),(14, .d (.it .i64))],[(11, .own (.it .u64) true),(13, .own (.it .u64) true)]⟩
noncomputable def k244l2:Sk:=⟨[(9, .d (.it .i64)),(11, .f (.a (.ref 11))),(12, .d (.it .i64)),(13, .f (.a (.ref 13))),(96, .d (.it .i64)),(97, .d (.it .i64))],[(11, .own (.it .u64) true),(13, .own (.it .u64) true)]⟩
noncomputable def les244 (gl0:(List Int)→(List Int)→Int→Int→(List Int)→Option R244) (gl1:Int→(List Int)→Int→Int→(List Int)→(List Int)→Option R244) (gl2:Int→Int→Int→Int→(List Int)→(List Int)→Option R244):List (LoE R244):=[⟨7,k244l0,fun s=>gl0 s.1.1 s.1.2.1 s.1.2.2.1 s.1.2.2.2.1 s.2.1⟩,⟨17,k244l1,fun s=>gl1 s.1.1 s.1.2.1 s.1.2.2.1 s.1.2.2.2.1 s.2.1 s.2.2.1⟩,⟨21,k244l2,fun s=>gl2 s.1.1 s.1.2.1 s.1.2.2.1 s.1.2.2.2.1 s.2.1 s.2.2.1⟩]
noncomputable def fes244 (c245:(List Int)→Option R245) (c276:(List Int)→(List Int)→Option R276) (c277:Int→Int→Int→Option R277) (c278:Int→Option R278) (c279:(List Int)→Int→Option R279) (c280:(List Int)→(List Int)→Option R280):List FE:=[(fe245 c245),(fe276 c276),(fe277 c277),(fe278 c278),(fe279 c279),(fe280 c280)]
section
variable (gl0:(List Int)→(List Int)→Int→Int→(List Int)→Option R244) (gl1:Int→(List Int)→Int→Int→(List Int)→(List Int)→Option R244) (gl2:Int→Int→Int→Int→(List Int)→(List Int)→Option R244) (c245:(List Int)→Option R245) (c276:(List Int)→(List Int)→Option R276) (c277:Int→Int→Int→Option R277) (c278:Int→Option R278) (c279:(List Int)→Int→Option R279) (c280:(List Int)→(List Int)→Option R280)
noncomputable def B244l0 (x0:(List Int)) (x1:(List Int)) (x7:Int) (x8:Int) (x6:(List Int)):Option R244:=if x8≥0 then(if 0≤x8 then(if x8<(x0.length:Int)then(if(0:Int)≤0 then(if 0<(x1.length:Int)then((c277 x7 (rd x0 x8) (rd x1 0)).bind fun r1=>(if 0≤x8 then(if x8<(x6.length:Int)then(gl0 x0 x1 r1.2 (wrap64 (x8-1)) (x6.set (x8:Int).toNat r1.1))else(none))else(none)))else(none))else(none))else(none))else(none))else((c245 x6).bind fun r2=>((c245 ([x7]:List Int)).bind fun r3=>(some (r2.2.take (r2.1:Int).toNat,r3.2.take (r3.1:Int).toNat))))
theorem e244l0 (s0:SbT ask244.bl) (s:k244l0.T):evPos E0 (orcOf (fes244 c245 c276 c277 c278 c279 c280)) 137 an244 (loOf (les244 gl0 gl1 gl2)) (rk244 s0) (p244.getD 0 ⟨0,[], .skip⟩) (k244l0.mk' s)=B244l0 gl0 c245 c277 s.1.1 s.1.2.1 s.1.2.2.1 s.1.2.2.2.1 s.2.1:=by kernel_rfl
noncomputable def B244l1 (x9:Int) (x10:(List Int)) (x12:Int) (x14:Int) (x11:(List Int)) (x13:(List Int)):Option R244:=if x14≥0 then(if 0≤x14 then(if x14≤wrap64 ((wrap64 (x14+x12))+1)then(if wrap64 ((wrap64 (x14+x12))+1)≤(x11.length:Int)then(if(x11.length:Int)≤(x11.length:Int)then((c280 x10 (slice_ x11 x14 (wrap64 ((wrap64 (x14+x12))+1)))).bind fun r1=>(if 0≤x14 then(if x14<(x13.length:Int)then(gl1 x9 x10 x12 (wrap64 (x14-1)) (x11.take ((x14:Int).toNat)++r1.2++x11.drop ((wrap64 ((wrap64 (x14+x12))+1):Int).toNat)) (x13.set (x14:Int).toNat r1.1))else(none))else(none)))else(none))else(none))else(none))else(none))else(gl2 x9 x12 x12 0 x11 x13)
theorem e244l1 (s0:SbT ask244.bl) (s:k244l1.T):evPos E0 (orcOf (fes244 c245 c276 c277 c278 c279 c280)) 137 an244 (loOf (les244 gl0 gl1 gl2)) (rk244 s0) (p244.getD 1 ⟨0,[], .skip⟩) (k244l1.mk' s)=B244l1 gl1 gl2 c280 s.1.1 s.1.2.1 s.1.2.2.1 s.1.2.2.2.1 s.2.1 s.2.2.1:=by kernel_rfl
noncomputable def B244l2 (x9:Int) (x12:Int) (x96:Int) (x97:Int) (x11:(List Int)) (x13:(List Int)):Option R244:=if x97<x96 then(if 0≤x97 then(if x97<(x11.length:Int)then(if 0≤x9 then(if 0≤x97 then(if x97<(x11.length:Int)then(if x9>0 then(if wrap64 (x97+1)<((x11.set (x97:Int).toNat (shr .u64 (rd x11 x97) x9)).length:Int)then(if 0≤x97 then(if x97<((x11.set (x97:Int).toNat (shr .u64 (rd x11 x97) x9)).length:Int)then(if 0≤wrap64 (x97+1)then(if wrap64 (x97+1)<((x11.set (x97:Int).toNat (shr .u64 (rd x11 x97) x9)).length:Int)then(if 0≤wrap64 (64-x9)then(if 0≤x97 then(if x97<((x11.set (x97:Int).toNat (shr .u64 (rd x11 x97) x9)).length:Int)then(gl2 x9 x12 x96 (wrap64 (x97+1)) ((x11.set (x97:Int).toNat (shr .u64 (rd x11 x97) x9)).set (x97:Int).toNat (Go.bits .or .u64 (rd (x11.set (x97:Int).toNat (shr .u64 (rd x11 x97) x9)) x97) (shl .u64 (rd (x11.set (x97:Int).toNat (shr .u64 (rd x11 x97) x9)) (wrap64 (x97+1))) (wrap64 (64-x9))))) x13)else(none))else(none))else(none))else(none))else(none))else(none))else(none))else(gl2 x9 x12 x96 (wrap64 (x97+1)) (x11.set (x97:Int).toNat (shr .u64 (rd x11 x97) x9)) x13))else(gl2 x9 x12 x96 (wrap64 (x97+1)) (x11.set (x97:Int).toNat (shr .u64 (rd x11 x97) x9)) x13))else(none))else(none))else(none))else(none))else(none))else((c245 x13).bind fun r1=>(if(0:Int)≤0 then(if 0≤x12 then(if x12≤(x11.length:Int)then(if(x11.length:Int)≤(x11.length:Int)then((c245 (slice_ x11 0 x12)).bind fun r2=>(some (r1.2.take (r1.1:Int).toNat,slice_ (x11.take ((0:Int).toNat)++r2.2++x11.drop ((x12:Int).toNat)) 0 (0+r2.1))))else(none))else(none))else(none))else(none)))
theorem e244l2 (s0:SbT ask244.bl) (s:k244l2.T):evPos E0 (orcOf (fes244 c245 c276 c277 c278 c279 c280)) 137 an244 (loOf (les244 gl0 gl1 gl2)) (rk244 s0) (p244.getD 2 ⟨0,[], .skip⟩) (k244l2.mk' s)=B244l2 gl2 c245 s.1.1 s.1.2.1 s.1.2.2.1 s.1.2.2.2.1 s.2.1 s.2.2.1:=by kernel_rfl
noncomputable def B244 (x0:(List Int)) (x1:(List Int)):Option R244:=(c276 x0 x1).bind fun r1=>(if r1<0 then(some (([]:List Int),x0))else(if(x1.length:Int)=1 then(if 0≤(x0.length:Int)then(if(x0.length:Int)≤(x0.length:Int)then(if((x0.length:Int):Int).toNat≤35184372088832 then(gl0 x0 x1 0 (wrap64 ((x0.length:Int)-1)) (List.replicate ((x0.length:Int):Int).toNat (0:Int)))else(none))else(none))else(none))else(if 0≤wrap64 ((x1.length:Int)-1)then(if wrap64 ((x1.length:Int)-1)<(x1.length:Int)then((c278 (rd x1 (wrap64 ((x1.length:Int)-1)))).bind fun r2=>((c279 x1 r2).bind fun r3=>((c245 r3).bind fun r4=>((c279 x0 r2).bind fun r5=>(if 0≤wrap64 ((wrap64 ((x0.length:Int)-((r4.2.take (r4.1:Int).toNat).length:Int)))+1)then(if wrap64 ((wrap64 ((x0.length:Int)-((r4.2.take (r4.1:Int).toNat).length:Int)))+1)≤wrap64 ((wrap64 ((x0.length:Int)-((r4.2.take (r4.1:Int).toNat).length:Int)))+1)then(if(wrap64 ((wrap64 ((x0.length:Int)-((r4.2.take (r4.1:Int).toNat).length:Int)))+1):Int).toNat≤35184372088832 then(gl1 r2 (r4.2.take (r4.1:Int).toNat) ((r4.2.take (r4.1:Int).toNat).length:Int) (wrap64 ((x0.length:Int)-((r4.2.take (r4.1:Int).toNat).length:Int))) r5 (List.replicate (wrap64 ((wrap64 ((x0.length:Int)-((r4.2.take (r4.1:Int).toNat).length:Int)))+1):Int).toNat (0:Int)))else(none))else(none))else(none))))))else(none))else(none))))
theorem e244 (s:ask244.T):evFn E0 (orcOf (fes244 c245 c276 c277 c278 c279 c280)) an244 (loOf (les244 gl0 gl1 gl2)) 137 cd244 Tryz.f244.results.toList rm244 (ask244.mk' s) (decW rsk244 dec244)=B244 gl0 gl1 c245 c276 c278 c279 s.1.1 s.1.2.1:=by kernel_rfl
end
noncomputable def an215:Ann:=⟨[(2,[(5, .val (.li (.it .u64))),(6, .val (.li (.it .u64)))])],[],[]⟩
noncomputable def cd215:Code:=(Tryz.f215.body).getD .skip
noncomputable def p215:List Pos:=posns an215 [] cd215
noncomputable def rm215:List RM:=[.d .st]
noncomputable def rk215 (s0:SbT ask215.bl):KX R215:=retK E0 Tryz.f215.results.toList rm215 (mkB ask215.bl s0) (decW rsk215 dec215)
noncomputable def k215l0:Sk:=⟨[(5, .d (.li (.it .u64))),(6, .d (.li (.it .u64)))],[]⟩
noncomputable def les215 (gl0:(List Int)→(List Int)→Option R215):List (LoE R215):=[⟨2,k215l0,fun s=>gl0 s.1.1 s.1.2.1⟩]
noncomputable def fes215 (c223:(List Int)→Option R223) (c225:ByteArray→Option R225) (c244:(List Int)→(List Int)→Option R244):List FE:=[(fe223 c223),(fe225 c225),(fe244 c244)]
section
variable (gl0:(List Int)→(List Int)→Option R215) (c223:(List Int)→Option R223) (c225:ByteArray→Option R225) (c244:(List Int)→(List Int)→Option R244)
noncomputable def B215l0 (x5:(List Int)) (x6:(List Int)):Option R215:=if(x6.length:Int)>0 then((c244 x5 x6).bind fun r1=>(gl0 x6 r1.2))else((c223 x5).bind fun r2=>(some r2))
theorem e215l0 (s0:SbT ask215.bl) (s:k215l0.T):evPos E0 (orcOf (fes215 c223 c225 c244)) 26 an215 (loOf (les215 gl0)) (rk215 s0) (p215.getD 0 ⟨0,[], .skip⟩) (k215l0.mk' s)=B215l0 gl0 c223 c244 s.1.1 s.1.2.1:=by kernel_rfl
noncomputable def B215 (x0:ByteArray) (x1:ByteArray):Option R215:=(c225 x0).bind fun r1=>((c225 x1).bind fun r2=>(gl0 r1 r2))
theorem e215 (s:ask215.T):evFn E0 (orcOf (fes215 c223 c225 c244)) an215 (loOf (les215 gl0)) 26 cd215 Tryz.f215.results.toList rm215 (ask215.mk' s) (decW rsk215 dec215)=B215 gl0 c225 s.1.1 s.1.2.1:=by kernel_rfl
end
noncomputable def an172:Ann:=⟨[],[],[]⟩
noncomputable def cd172:Code:=(Tryz.f172.body).getD .skip
noncomputable def rm172:List RM:=[.d (.it .i64)]
noncomputable def les172:List (LoE R172):=[]
noncomputable def fes172 (c213:TI→Option R213) (c214:ByteArray→Option R214) (c215:ByteArray→ByteArray→Option R215):List FE:=[(fe213 c213),(fe214 c214),(fe215 c215)]
section
variable (c213:TI→Option R213) (c214:ByteArray→Option R214) (c215:ByteArray→ByteArray→Option R215)
noncomputable def B172 (x0:TQ):Option R172:=(c213 x0.1).bind fun r1=>((c214 x0.2).bind fun r2=>(if r1=1 then(some 1)else(if r2=1 then(some 1)else(cnd ((eqS x0.2 (⟨#[]⟩:ByteArray))) (some 1) (if r1≠0 then(some r1)else(if r2≠0 then(some r2)else(cnd ((!(eqS x0.2 (⟨#[1]⟩:ByteArray)))) ((c215 x0.1.2 x0.2).bind fun r3=>(cnd ((!(eqS r3 (⟨#[1]⟩:ByteArray)))) (some 1) (some 0))) (some 0))))))))
theorem e172 (s:ask172.T):evFn E0 (orcOf (fes172 c213 c214 c215)) an172 (loOf (les172)) 44 cd172 Tryz.f172.results.toList rm172 (ask172.mk' s) (decW rsk172 dec172)=B172 c213 c214 c215 s.1.1:=by kernel_rfl
end
noncomputable def an120:Ann:=⟨[(4,[(0, .any),(9, .any),(10, .any),(11, .any)])],[],[]⟩
noncomputable def cd120:Code:=(Tryz.f120.body).getD .skip
noncomputable def p120:List Pos:=posns an120 [] cd120
noncomputable def rm120:List RM:=[.d (.it .i64)]
noncomputable def rk120 (s0:SbT ask120.bl):KX R120:=retK E0 Tryz.f120.results.toList rm120 (mkB ask120.bl s0) (decW rsk120 dec120)
noncomputable def k120l0:Sk:=⟨[(0, .d (.li (.ag (.pr (.ag (.pr .bo .st)) .st)))),(9, .d (.li (.ag (.pr (.ag (.pr .bo .st)) .st)))),(10, .d (.it .i64)),(11, .d (.it .i64))],[]⟩
noncomputable def les120 (gl0:(List TQ)→(List TQ)→Int→Int→Option R120):List (LoE R120):=[⟨4,k120l0,fun s=>gl0 s.1.1 s.1.2.1 s.1.2.2.1 s.1.2.2.2.1⟩]
noncomputable def fes120 (c152:TQ→Option R152) (c172:TQ→Option R172):List FE:=[(fe152 c152),(fe172 c172)]
section
variable (gl0:(List TQ)→(List TQ)→Int→Int→Option R120) (c152:TQ→Option R152) (c172:TQ→Option R172)
noncomputable def B120l0 (x0:(List TQ)) (x9:(List TQ)) (x10:Int) (x11:Int):Option R120:=if x11<x10 then(if 0≤x11 then(if x11<(x9.length:Int)then((c172 (rdOf ((false,(⟨#[]⟩:ByteArray)),(⟨#[]⟩:ByteArray)) x9 x11)).bind fun r1=>(if r1≠0 then(some r1)else(gl0 x0 x9 x10 (wrap64 (x11+1)))))else(none))else(none))else(if(x0.length:Int)>0 then(if 0≤wrap64 ((x0.length:Int)-1)then(if wrap64 ((x0.length:Int)-1)<(x0.length:Int)then((c152 (rdOf ((false,(⟨#[]⟩:ByteArray)),(⟨#[]⟩:ByteArray)) x0 (wrap64 ((x0.length:Int)-1)))).bind fun r2=>(cnd (r2) (some 1) (some 0)))else(none))else(none))else(some 0))
theorem e120l0 (s0:SbT ask120.bl) (s:k120l0.T):evPos E0 (orcOf (fes120 c152 c172)) 33 an120 (loOf (les120 gl0)) (rk120 s0) (p120.getD 0 ⟨0,[], .skip⟩) (k120l0.mk' s)=B120l0 gl0 c152 c172 s.1.1 s.1.2.1 s.1.2.2.1 s.1.2.2.2.1:=by kernel_rfl
noncomputable def B120 (x0:(List TQ)):Option R120:=if(x0.length:Int)>65 then(some 4)else(gl0 x0 x0 (x0.length:Int) 0)
theorem e120 (s:ask120.T):evFn E0 (orcOf (fes120 c152 c172)) an120 (loOf (les120 gl0)) 33 cd120 Tryz.f120.results.toList rm120 (ask120.mk' s) (decW rsk120 dec120)=B120 gl0 s.1.1:=by kernel_rfl
end
noncomputable def an171:Ann:=⟨[],[],[]⟩
noncomputable def cd171:Code:=(Tryz.f171.body).getD .skip
noncomputable def rm171:List RM:=[.d .bo]
noncomputable def les171:List (LoE R171):=[]
noncomputable def fes171:List FE:=[]
noncomputable def B171 (x0:TQ):Option R171:=some (eqS x0.2 (⟨#[1]⟩:ByteArray))
theorem e171 (s:ask171.T):evFn E0 (orcOf (fes171)) an171 (loOf (les171)) 6 cd171 Tryz.f171.results.toList rm171 (ask171.mk' s) (decW rsk171 dec171)=B171 s.1.1:=by kernel_rfl
noncomputable def an170:Ann:=⟨[],[],[]⟩
noncomputable def cd170:Code:=(Tryz.f170.body).getD .skip
noncomputable def rm170:List RM:=[.d .bo]
noncomputable def les170:List (LoE R170):=[]
noncomputable def fes170 (c171:TQ→Option R171):List FE:=[(fe171 c171)]
section
variable (c171:TQ→Option R171)
noncomputable def B170 (x0:TQ):Option R170:=(c171 x0).bind fun r1=>(some (!r1))
theorem e170 (s:ask170.T):evFn E0 (orcOf (fes170 c171)) an170 (loOf (les170)) 6 cd170 Tryz.f170.results.toList rm170 (ask170.mk' s) (decW rsk170 dec170)=B170 c171 s.1.1:=by kernel_rfl
end
noncomputable def an194Form:Ann:=⟨[(2,[(0, .any),(1, .any),(7, .any),(8, .any)])],[],[]⟩
noncomputable def cd194Form:Code:=(Tryz.f194.body).getD .skip
noncomputable def p194Form:List Pos:=posns an194Form [] cd194Form
noncomputable def rm194Form:List RM:=[.d (.it .i64)]
noncomputable def rk194Form (s0:SbT ask194Form.bl):KX R194Form:=retK E0 Tryz.f194.results.toList rm194Form (mkB ask194Form.bl s0) (decW rsk194Form dec194Form)
noncomputable def k194Forml0:Sk:=⟨[(0, .d (.li (.ag (.pr (.ag (.pr .bo .st)) .st)))),(1, .f (.cl 170 [])),(7, .d (.it .i64)),(8, .d (.it .i64))],[]⟩
noncomputable def les194Form (gl0:(List TQ)→Int→Int→Option R194Form):List (LoE R194Form):=[⟨2,k194Forml0,fun s=>gl0 s.1.1 s.1.2.1 s.1.2.2.1⟩]
noncomputable def fes194Form (c170:TQ→Option R170):List FE:=[(fe170 c170)]
section
variable (gl0:(List TQ)→Int→Int→Option R194Form) (c170:TQ→Option R170)
noncomputable def B194Forml0 (x0:(List TQ)) (x7:Int) (x8:Int):Option R194Form:=if x8<x7 then(if 0≤x8 then(if x8<(x0.length:Int)then((c170 (rdOf ((false,(⟨#[]⟩:ByteArray)),(⟨#[]⟩:ByteArray)) x0 x8)).bind fun r1=>(cnd (r1) (some x8) (gl0 x0 x7 (wrap64 (x8+1)))))else(none))else(none))else(some (-1))
theorem e194Forml0 (s0:SbT ask194Form.bl) (s:k194Forml0.T):evPos E0 (orcOf (fes194Form c170)) 19 an194Form (loOf (les194Form gl0)) (rk194Form s0) (p194Form.getD 0 ⟨0,[], .skip⟩) (k194Forml0.mk' s)=B194Forml0 gl0 c170 s.1.1 s.1.2.1 s.1.2.2.1:=by kernel_rfl
noncomputable def B194Form (x0:(List TQ)):Option R194Form:=gl0 x0 (x0.length:Int) 0
theorem e194Form (s:ask194Form.T):evFn E0 (orcOf (fes194Form c170)) an194Form (loOf (les194Form gl0)) 19 cd194Form Tryz.f194.results.toList rm194Form (ask194Form.mk' s) (decW rsk194Form dec194Form)=B194Form gl0 s.1.1:=by kernel_rfl
end
noncomputable def an153Form:Ann:=⟨[],[],[]⟩
noncomputable def cd153Form:Code:=(Tryz.f153.body).getD .skip
noncomputable def rm153Form:List RM:=[.d .bo]
noncomputable def les153Form:List (LoE R153Form):=[]
noncomputable def fes153Form (c194Form:(List TQ)→Option R194Form):List FE:=[(fe194Form c194Form)]
section
variable (c194Form:(List TQ)→Option R194Form)
noncomputable def B153Form (x0:(List TQ)):Option R153Form:=(c194Form x0).bind fun r1=>(some (decide (r1≥0)))
theorem e153Form (s:ask153Form.T):evFn E0 (orcOf (fes153Form c194Form)) an153Form (loOf (les153Form)) 9 cd153Form Tryz.f153.results.toList rm153Form (ask153Form.mk' s) (decW rsk153Form dec153Form)=B153Form c194Form s.1.1:=by kernel_rfl
end
noncomputable def an119:Ann:=⟨[],[],[]⟩
noncomputable def cd119:Code:=(Tryz.f119.body).getD .skip
noncomputable def rm119:List RM:=[.d (.it .i64)]
noncomputable def les119:List (LoE R119):=[]
noncomputable def fes119 (c89:Int→Option R89) (c120:(List TQ)→Option R120) (c153Form:(List TQ)→Option R153Form):List FE:=[(fe89 c89),(fe120 c120),(fe153Form c153Form)]
section
variable (c89:Int→Option R89) (c120:(List TQ)→Option R120) (c153Form:(List TQ)→Option R153Form)
noncomputable def B119 (x0:(List TQ)):Option R119:=(c120 x0).bind fun r1=>(if r1≠0 then(some r1)else(if wrap64 ((x0.length:Int)-1)<1 then(some 1)else(if 0≤wrap64 ((x0.length:Int)-1)then(if wrap64 ((x0.length:Int)-1)<(x0.length:Int)then((c89 1).bind fun r2=>(cnd ((!((((((rdOf ((false,(⟨#[]⟩:ByteArray)),(⟨#[]⟩:ByteArray)) x0 (wrap64 ((x0.length:Int)-1))).1).1)==r2.1.1)&&(eqS (((rdOf ((false,(⟨#[]⟩:ByteArray)),(⟨#[]⟩:ByteArray)) x0 (wrap64 ((x0.length:Int)-1))).1).2) r2.1.2))&&(eqS ((rdOf ((false,(⟨#[]⟩:ByteArray)),(⟨#[]⟩:ByteArray)) x0 (wrap64 ((x0.length:Int)-1))).2) r2.2)))) (some 1) ((c153Form x0).bind fun r3=>(cnd (r3) (some 1) (if wrap64 ((x0.length:Int)-1)>24 then(some 4)else(some 0))))))else(none))else(none))))
theorem e119 (s:ask119.T):evFn E0 (orcOf (fes119 c89 c120 c153Form)) an119 (loOf (les119)) 33 cd119 Tryz.f119.results.toList rm119 (ask119.mk' s) (decW rsk119 dec119)=B119 c89 c120 c153Form s.1.1:=by kernel_rfl
end
noncomputable def an124:Ann:=⟨[],[],[]⟩
noncomputable def cd124:Code:=(Tryz.f124.body).getD .skip
noncomputable def rm124:List RM:=[.d (.it .i64)]
noncomputable def les124:List (LoE R124):=[]
noncomputable def fes124 (c120:(List TQ)→Option R120):List FE:=[(fe120 c120)]
section
variable (c120:(List TQ)→Option R120)
noncomputable def B124 (x0:(List TQ)) (x1:(List TQ)):Option R124:=(c120 x1).bind fun r1=>(if r1≠0 then(some r1)else(if(x1.length:Int)≥(x0.length:Int)then(some 3)else(some 0)))
theorem e124 (s:ask124.T):evFn E0 (orcOf (fes124 c120)) an124 (loOf (les124)) 17 cd124 Tryz.f124.results.toList rm124 (ask124.mk' s) (decW rsk124 dec124)=B124 c120 s.1.1 s.1.2.1:=by kernel_rfl
end
noncomputable def an138:Ann:=⟨[(4,[(1, .any),(2, .any),(11, .any),(12, .any),(13, .any)])],[],[]⟩
noncomputable def cd138:Code:=(Tryz.f138.body).getD .skip
noncomputable def p138:List Pos:=posns an138 [] cd138
noncomputable def rm138:List RM:=[.d (.it .i64)]
noncomputable def rk138 (s0:SbT ask138.bl):KX R138:=retK E0 Tryz.f138.results.toList rm138 (mkB ask138.bl s0) (decW rsk138 dec138)
noncomputable def k138l0:Sk:=⟨[(1, .d (.li (.li (.ag (.pr (.ag (.pr .bo .st)) .st))))),(2, .f (.a (.ptr 2 0 []))),(11, .d (.li (.li (.ag (.pr (.ag (.pr .bo .st)) .st))))),(12, .d (.it .i64)),(13, .d (.it .i64))],[(2, .cell (.ag (.li (.ag (.pr (.ag (.pr .bo .st)) .st)))) true)]⟩
noncomputable def les138 (gl0:(List (List TQ))→(List (List TQ))→Int→Int→(List TQ)→Option R138):List (LoE R138):=[⟨4,k138l0,fun s=>gl0 s.1.1 s.1.2.1 s.1.2.2.1 s.1.2.2.2.1 s.2.1⟩]
noncomputable def fes138 (c124:(List TQ)→(List TQ)→Option R124):List FE:=[(fe124 c124)]
section
variable (gl0:(List (List TQ))→(List (List TQ))→Int→Int→(List TQ)→Option R138) (c124:(List TQ)→(List TQ)→Option R124)
noncomputable def B138l0 (x1:(List (List TQ))) (x11:(List (List TQ))) (x12:Int) (x13:Int) (x2:(List TQ)):Option R138:=if x13<x12 then(if 0≤x13 then(if x13<(x11.length:Int)then((c124 x2 (rdOf ([]:List TQ) x11 x13)).bind fun r1=>(if r1≠0 then(some r1)else(gl0 x1 x11 x12 (wrap64 (x13+1)) x2)))else(none))else(none))else(if(x1.length:Int)>0 then(if 0≤wrap64 ((x1.length:Int)-1)then(if wrap64 ((x1.length:Int)-1)<(x1.length:Int)then(if((rdOf ([]:List TQ) x1 (wrap64 ((x1.length:Int)-1))).length:Int)=0 then(some 1)else(some 0))else(none))else(none))else(some 0))
theorem e138l0 (s0:SbT ask138.bl) (s:k138l0.T):evPos E0 (orcOf (fes138 c124)) 37 an138 (loOf (les138 gl0)) (rk138 s0) (p138.getD 0 ⟨0,[], .skip⟩) (k138l0.mk' s)=B138l0 gl0 c124 s.1.1 s.1.2.1 s.1.2.2.1 s.1.2.2.2.1 s.2.1:=by kernel_rfl
noncomputable def B138 (x0:(List TQ)) (x1:(List (List TQ))):Option R138:=if(x1.length:Int)>65 then(some 4)else(gl0 x1 x1 (x1.length:Int) 0 x0)
theorem e138 (s:ask138.T):evFn E0 (orcOf (fes138 c124)) an138 (loOf (les138 gl0)) 37 cd138 Tryz.f138.results.toList rm138 (ask138.mk' s) (decW rsk138 dec138)=B138 gl0 s.1.1 s.1.2.1:=by kernel_rfl
end
noncomputable def an83:Ann:=⟨[(5,[(2, .any),(14, .any),(15, .any),(16, .any)])],[],[]⟩
noncomputable def cd83:Code:=(Tryz.f83.body).getD .skip
noncomputable def p83:List Pos:=posns an83 [] cd83
noncomputable def rm83:List RM:=[.d (.it .i64)]
noncomputable def rk83 (s0:SbT ask83.bl):KX R83:=retK E0 Tryz.f83.results.toList rm83 (mkB ask83.bl s0) (decW rsk83 dec83)
noncomputable def k83l0:Sk:=⟨[(2, .f (.a (.ptr 2 0 []))),(14, .d (.li (.li (.li (.ag (.pr (.ag (.pr .bo .st)) .st)))))),(15, .d (.it .i64)),(16, .d (.it .i64))],[(2, .cell (.ag (.li (.ag (.pr (.ag (.pr .bo .st)) .st)))) true)]⟩
noncomputable def les83 (gl0:(List (List (List TQ)))→Int→Int→(List TQ)→Option R83):List (LoE R83):=[⟨5,k83l0,fun s=>gl0 s.1.1 s.1.2.1 s.1.2.2.1 s.2.1⟩]
noncomputable def fes83 (c119:(List TQ)→Option R119) (c138:(List TQ)→(List (List TQ))→Option R138):List FE:=[(fe119 c119),(fe138 c138)]
section
variable (gl0:(List (List (List TQ)))→Int→Int→(List TQ)→Option R83) (c119:(List TQ)→Option R119) (c138:(List TQ)→(List (List TQ))→Option R138)
noncomputable def B83l0 (x14:(List (List (List TQ)))) (x15:Int) (x16:Int) (x2:(List TQ)):Option R83:=if x16<x15 then(if 0≤x16 then(if x16<(x14.length:Int)then((c138 x2 (rdOf ([]:List (List TQ)) x14 x16)).bind fun r1=>(if r1≠0 then(some r1)else(gl0 x14 x15 (wrap64 (x16+1)) x2)))else(none))else(none))else(some 0)
theorem e83l0 (s0:SbT ask83.bl) (s:k83l0.T):evPos E0 (orcOf (fes83 c119 c138)) 27 an83 (loOf (les83 gl0)) (rk83 s0) (p83.getD 0 ⟨0,[], .skip⟩) (k83l0.mk' s)=B83l0 gl0 c138 s.1.1 s.1.2.1 s.1.2.2.1 s.2.1:=by kernel_rfl
noncomputable def B83 (x0:(List TQ)) (x1:(List (List (List TQ)))):Option R83:=(c119 x0).bind fun r1=>(if r1≠0 then(some r1)else(gl0 x1 (x1.length:Int) 0 x0))
theorem e83 (s:ask83.T):evFn E0 (orcOf (fes83 c119 c138)) an83 (loOf (les83 gl0)) 27 cd83 Tryz.f83.results.toList rm83 (ask83.mk' s) (decW rsk83 dec83)=B83 gl0 c119 s.1.1 s.1.2.1:=by kernel_rfl
end
noncomputable def an224:Ann:=⟨[(3,[(1, .any),(5, .any),(20, .any),(21, .any),(22, .any)]),(7,[(1, .any),(5, .any),(6, .any),(7, .any),(8, .any),(20, .any),(21, .any),(22, .any),(27, .any),(28, .any),(29, .any)])],[],[]⟩
noncomputable def cd224:Code:=(Tryz.f224.body).getD .skip
noncomputable def p224:List Pos:=posns an224 [] cd224
noncomputable def rm224:List RM:=[.d (.li (.it .u64))]
noncomputable def rk224 (s0:SbT ask224.bl):KX R224:=retK E0 Tryz.f224.results.toList rm224 (mkB ask224.bl s0) (decW rsk224 dec224)
noncomputable def k224l0:Sk:=⟨[(1, .d (.li (.it .u64))),(5, .f (.a (.ref 5))),(20, .d (.li (.it .u64))),(21, .d (.it .i64)),(22, .d (.it .i64))],[(5, .own (.it .u64) true)]⟩
noncomputable def k224l1:Sk:=⟨[(1, .d (.li (.it .u64))),(5, .f (.a (.ref 5))),(6, .d (.it .i64)),(7, .d (.it .u64)),(8, .d (.it .u64)),(20, .d (.li (.it .u64))),(21, .d (.it .i64)),(22, .d (.it .i64)),(27, .d (.li (.it .u64))),(28, .d (.it .i64)),(29, .d (.it .i64))],[(5, .own (.it .u64) true)]⟩
noncomputable def les224 (gl0:(List Int)→(List Int)→Int→Int→(List Int)→Option R224) (gl1:(List Int)→Int→Int→Int→(List Int)→Int→Int→(List Int)→Int→Int→(List Int)→Option R224):List (LoE R224):=[⟨3,k224l0,fun s=>gl0 s.1.1 s.1.2.1 s.1.2.2.1 s.1.2.2.2.1 s.2.1⟩,⟨7,k224l1,fun s=>gl1 s.1.1 s.1.2.1 s.1.2.2.1 s.1.2.2.2.1 s.1.2.2.2.2.1 s.1.2.2.2.2.2.1 s.1.2.2.2.2.2.2.1 s.1.2.2.2.2.2.2.2.1 s.1.2.2.2.2.2.2.2.2.1 s.1.2.2.2.2.2.2.2.2.2.1 s.2.1⟩]
noncomputable def fes224 (c245:(List Int)→Option R245) (c246:Int→Int→Option R246) (c247:Int→Int→Int→Option R247):List FE:=[(fe245 c245),(fe246 c246),(fe247 c247)]
section
variable (gl0:(List Int)→(List Int)→Int→Int→(List Int)→Option R224) (gl1:(List Int)→Int→Int→Int→(List Int)→Int→Int→(List Int)→Int→Int→(List Int)→Option R224) (c245:(List Int)→Option R245) (c246:Int→Int→Option R246) (c247:Int→Int→Int→Option R247)
noncomputable def B224l0 (x1:(List Int)) (x20:(List Int)) (x21:Int) (x22:Int) (x5:(List Int)):Option R224:=if x22<x21 then(if 0≤x22 then(if x22<(x20.length:Int)then(gl1 x1 x22 (rd x20 x22) 0 x20 x21 x22 x1 (x1.length:Int) 0 x5)else(none))else(none))else((c245 x5).bind fun r1=>(some (r1.2.take (r1.1:Int).toNat)))
theorem e224l0 (s0:SbT ask224.bl) (s:k224l0.T):evPos E0 (orcOf (fes224 c245 c246 c247)) 80 an224 (loOf (les224 gl0 gl1)) (rk224 s0) (p224.getD 0 ⟨0,[], .skip⟩) (k224l0.mk' s)=B224l0 gl1 c245 s.1.1 s.1.2.1 s.1.2.2.1 s.1.2.2.2.1 s.2.1:=by kernel_rfl
noncomputable def B224l1 (x1:(List Int)) (x6:Int) (x7:Int) (x8:Int) (x20:(List Int)) (x21:Int) (x22:Int) (x27:(List Int)) (x28:Int) (x29:Int) (x5:(List Int)):Option R224:=if x29<x28 then(if 0≤x29 then(if x29<(x27.length:Int)then((c246 x7 (rd x27 x29)).bind fun r1=>(if 0≤wrap64 (x6+x29)then(if wrap64 (x6+x29)<(x5.length:Int)then((c247 r1.2 (rd x5 (wrap64 (x6+x29))) 0).bind fun r2=>((c247 r2.1 x8 0).bind fun r3=>(if 0≤wrap64 (x6+x29)then(if wrap64 (x6+x29)<(x5.length:Int)then(gl1 x1 x6 x7 (IntKind.u64.wrap ((IntKind.u64.wrap (r1.1+r2.2))+r3.2)) x20 x21 x22 x27 x28 (wrap64 (x29+1)) (x5.set (wrap64 (x6+x29):Int).toNat r3.1))else(none))else(none))))else(none))else(none)))else(none))else(none))else(if 0≤wrap64 (x6+(x1.length:Int))then(if wrap64 (x6+(x1.length:Int))<(x5.length:Int)then(gl0 x1 x20 x21 (wrap64 (x22+1)) (x5.set (wrap64 (x6+(x1.length:Int)):Int).toNat x8))else(none))else(none))
theorem e224l1 (s0:SbT ask224.bl) (s:k224l1.T):evPos E0 (orcOf (fes224 c245 c246 c247)) 80 an224 (loOf (les224 gl0 gl1)) (rk224 s0) (p224.getD 1 ⟨0,[], .skip⟩) (k224l1.mk' s)=B224l1 gl0 gl1 c246 c247 s.1.1 s.1.2.1 s.1.2.2.1 s.1.2.2.2.1 s.1.2.2.2.2.1 s.1.2.2.2.2.2.1 s.1.2.2.2.2.2.2.1 s.1.2.2.2.2.2.2.2.1 s.1.2.2.2.2.2.2.2.2.1 s.1.2.2.2.2.2.2.2.2.2.1 s.2.1:=by kernel_rfl
noncomputable def B224 (x0:(List Int)) (x1:(List Int)):Option R224:=if 0≤wrap64 ((x0.length:Int)+(x1.length:Int))then(if wrap64 ((x0.length:Int)+(x1.length:Int))≤wrap64 ((x0.length:Int)+(x1.length:Int))then(if(wrap64 ((x0.length:Int)+(x1.length:Int)):Int).toNat≤35184372088832 then(gl0 x1 x0 (x0.length:Int) 0 (List.replicate (wrap64 ((x0.length:Int)+(x1.length:Int)):Int).toNat (0:Int)))else(none))else(none))else(none)
theorem e224 (s:ask224.T):evFn E0 (orcOf (fes224 c245 c246 c247)) an224 (loOf (les224 gl0 gl1)) 80 cd224 Tryz.f224.results.toList rm224 (ask224.mk' s) (decW rsk224 dec224)=B224 gl0 s.1.1 s.1.2.1:=by kernel_rfl
end
noncomputable def an186:Ann:=⟨[],[],[]⟩
noncomputable def cd186:Code:=(Tryz.f186.body).getD .skip
noncomputable def rm186:List RM:=[.d .st]
noncomputable def les186:List (LoE R186):=[]
noncomputable def fes186 (c223:(List Int)→Option R223) (c224:(List Int)→(List Int)→Option R224) (c225:ByteArray→Option R225):List FE:=[(fe223 c223),(fe224 c224),(fe225 c225)]
section
variable (c223:(List Int)→Option R223) (c224:(List Int)→(List Int)→Option R224) (c225:ByteArray→Option R225)
noncomputable def B186 (x0:ByteArray) (x1:ByteArray):Option R186:=(c225 x0).bind fun r1=>((c225 x1).bind fun r2=>((c224 r1 r2).bind fun r3=>((c223 r3).bind fun r4=>(some r4))))
theorem e186 (s:ask186.T):evFn E0 (orcOf (fes186 c223 c224 c225)) an186 (loOf (les186)) 11 cd186 Tryz.f186.results.toList rm186 (ask186.mk' s) (decW rsk186 dec186)=B186 c223 c224 c225 s.1.1 s.1.2.1:=by kernel_rfl
end
noncomputable def an192:Ann:=⟨[],[],[]⟩
noncomputable def cd192:Code:=(Tryz.f192.body).getD .skip
noncomputable def rm192:List RM:=[.d (.ag (.pr .bo .st))]
noncomputable def les192:List (LoE R192):=[]
noncomputable def fes192:List FE:=[]
noncomputable def B192 (x0:Bool) (x1:ByteArray):Option R192:=cnd (x0) (some ((!(eqS x1 (⟨#[]⟩:ByteArray))),x1)) (some (false,x1))
theorem e192 (s:ask192.T):evFn E0 (orcOf (fes192)) an192 (loOf (les192)) 12 cd192 Tryz.f192.results.toList rm192 (ask192.mk' s) (decW rsk192 dec192)=B192 s.1.1 s.1.2.1:=by kernel_rfl
noncomputable def an184:Ann:=⟨[],[],[]⟩
noncomputable def cd184:Code:=(Tryz.f184.body).getD .skip
noncomputable def rm184:List RM:=[.d (.ag (.pr .bo .st))]
noncomputable def les184:List (LoE R184):=[]
noncomputable def fes184 (c186:ByteArray→ByteArray→Option R186) (c192:Bool→ByteArray→Option R192):List FE:=[(fe186 c186),(fe192 c192)]
section
variable (c186:ByteArray→ByteArray→Option R186) (c192:Bool→ByteArray→Option R192)
noncomputable def B184 (x0:TI) (x1:TI):Option R184:=(c186 x0.2 x1.2).bind fun r1=>((c192 (!(x0.1==x1.1)) r1).bind fun r2=>(some (r2.1,r2.2)))
theorem e184 (s:ask184.T):evFn E0 (orcOf (fes184 c186 c192)) an184 (loOf (les184)) 16 cd184 Tryz.f184.results.toList rm184 (ask184.mk' s) (decW rsk184 dec184)=B184 c186 c192 s.1.1 s.1.2.1:=by kernel_rfl
end
noncomputable def an222:Ann:=⟨[],[],[]⟩
noncomputable def cd222:Code:=(Tryz.f222.body).getD .skip
noncomputable def rm222:List RM:=[.d .st, .d .st]
noncomputable def les222:List (LoE R222):=[]
noncomputable def fes222 (c223:(List Int)→Option R223) (c225:ByteArray→Option R225) (c244:(List Int)→(List Int)→Option R244):List FE:=[(fe223 c223),(fe225 c225),(fe244 c244)]
section
variable (c223:(List Int)→Option R223) (c225:ByteArray→Option R225) (c244:(List Int)→(List Int)→Option R244)
noncomputable def B222 (x0:ByteArray) (x1:ByteArray):Option R222:=(c225 x0).bind fun r1=>((c225 x1).bind fun r2=>((c244 r1 r2).bind fun r3=>((c223 r3.1).bind fun r4=>((c223 r3.2).bind fun r5=>(some (r4,r5))))))
theorem e222 (s:ask222.T):evFn E0 (orcOf (fes222 c223 c225 c244)) an222 (loOf (les222)) 20 cd222 Tryz.f222.results.toList rm222 (ask222.mk' s) (decW rsk222 dec222)=B222 c223 c225 c244 s.1.1 s.1.2.1:=by kernel_rfl
end
noncomputable def an185:Ann:=⟨[],[],[]⟩
noncomputable def cd185:Code:=(Tryz.f185.body).getD .skip
noncomputable def rm185:List RM:=[.d (.ag (.pr (.ag (.pr .bo .st)) .st))]
noncomputable def les185:List (LoE R185):=[]
noncomputable def fes185 (c192:Bool→ByteArray→Option R192) (c215:ByteArray→ByteArray→Option R215) (c222:ByteArray→ByteArray→Option R222):List FE:=[(fe192 c192),(fe215 c215),(fe222 c222)]
section
variable (c192:Bool→ByteArray→Option R192) (c215:ByteArray→ByteArray→Option R215) (c222:ByteArray→ByteArray→Option R222)
noncomputable def B185 (x0:TI) (x1:TI):Option R185:=(c215 x0.2 x1.2).bind fun r1=>(cnd ((!(eqS r1 (⟨#[1]⟩:ByteArray)))) ((c222 x0.2 r1).bind fun r2=>((c222 x1.2 r1).bind fun r3=>((c192 (!(x0.1==x1.1)) r2.1).bind fun r4=>(some ((r4.1,r4.2),r3.1))))) ((c192 (!(x0.1==x1.1)) x0.2).bind fun r5=>(some ((r5.1,r5.2),x1.2))))
theorem e185 (s:ask185.T):evFn E0 (orcOf (fes185 c192 c215 c222)) an185 (loOf (les185)) 40 cd185 Tryz.f185.results.toList rm185 (ask185.mk' s) (decW rsk185 dec185)=B185 c192 c215 c222 s.1.1 s.1.2.1:=by kernel_rfl
end
noncomputable def an142:Ann:=⟨[],[],[]⟩
noncomputable def cd142:Code:=(Tryz.f142.body).getD .skip
noncomputable def rm142:List RM:=[.d (.ag (.pr (.ag (.pr .bo .st)) .st))]
noncomputable def les142:List (LoE R142):=[]
noncomputable def fes142 (c149:TI→Option R149) (c184:TI→TI→Option R184) (c185:TI→TI→Option R185) (c186:ByteArray→ByteArray→Option R186):List FE:=[(fe149 c149),(fe184 c184),(fe185 c185),(fe186 c186)]
section
variable (c149:TI→Option R149) (c184:TI→TI→Option R184) (c185:TI→TI→Option R185) (c186:ByteArray→ByteArray→Option R186)
noncomputable def B142 (x0:TQ) (x1:TQ):Option R142:=cnd ((eqS x0.2 (⟨#[1]⟩:ByteArray))) (cnd ((eqS x1.2 (⟨#[1]⟩:ByteArray))) ((c184 x0.1 x1.1).bind fun r1=>((c149 (r1.1,r1.2)).bind fun r2=>(some (r2.1,r2.2)))) ((c184 x0.1 x1.1).bind fun r3=>((c186 x0.2 x1.2).bind fun r4=>((c185 (r3.1,r3.2) (false,r4)).bind fun r5=>(some (r5.1,r5.2)))))) ((c184 x0.1 x1.1).bind fun r6=>((c186 x0.2 x1.2).bind fun r7=>((c185 (r6.1,r6.2) (false,r7)).bind fun r8=>(some (r8.1,r8.2)))))
theorem e142 (s:ask142.T):evFn E0 (orcOf (fes142 c149 c184 c185 c186)) an142 (loOf (les142)) 31 cd142 Tryz.f142.results.toList rm142 (ask142.mk' s) (decW rsk142 dec142)=B142 c149 c184 c185 c186 s.1.1 s.1.2.1:=by kernel_rfl
end
noncomputable def an188:Ann:=⟨[(2,[(1, .any),(5, .val (.li (.it .u64))),(6, .val (.li (.it .u64)))])],[],[]⟩
noncomputable def cd188:Code:=(Tryz.f188.body).getD .skip
noncomputable def p188:List Pos:=posns an188 [] cd188
noncomputable def rm188:List RM:=[.d .st]
noncomputable def rk188 (s0:SbT ask188.bl):KX R188:=retK E0 Tryz.f188.results.toList rm188 (mkB ask188.bl s0) (decW rsk188 dec188)
noncomputable def k188l0:Sk:=⟨[(1, .d (.it .i64)),(5, .d (.li (.it .u64))),(6, .d (.li (.it .u64)))],[]⟩
noncomputable def les188 (gl0:Int→(List Int)→(List Int)→Option R188):List (LoE R188):=[⟨2,k188l0,fun s=>gl0 s.1.1 s.1.2.1 s.1.2.2.1⟩]
noncomputable def fes188 (c223:(List Int)→Option R223) (c224:(List Int)→(List Int)→Option R224) (c225:ByteArray→Option R225):List FE:=[(fe223 c223),(fe224 c224),(fe225 c225)]
section
variable (gl0:Int→(List Int)→(List Int)→Option R188) (c223:(List Int)→Option R223) (c224:(List Int)→(List Int)→Option R224) (c225:ByteArray→Option R225)
noncomputable def B188l0 (x1:Int) (x5:(List Int)) (x6:(List Int)):Option R188:=if x1>0 then(if Go.bits .and .i64 x1 1=1 then((c224 x5 x6).bind fun r1=>((c224 x6 x6).bind fun r2=>(if(0:Int)≤1 then(gl0 (x1/2) r1 r2)else(none))))else((c224 x6 x6).bind fun r3=>(if(0:Int)≤1 then(gl0 (x1/2) x5 r3)else(none))))else((c223 x5).bind fun r4=>(some r4))
theorem e188l0 (s0:SbT ask188.bl) (s:k188l0.T):evPos E0 (orcOf (fes188 c223 c224 c225)) 25 an188 (loOf (les188 gl0)) (rk188 s0) (p188.getD 0 ⟨0,[], .skip⟩) (k188l0.mk' s)=B188l0 gl0 c223 c224 s.1.1 s.1.2.1 s.1.2.2.1:=by kernel_rfl
noncomputable def B188 (x0:ByteArray) (x1:Int):Option R188:=(c225 x0).bind fun r1=>(gl0 x1 ([1]:List Int) r1)
theorem e188 (s:ask188.T):evFn E0 (orcOf (fes188 c223 c224 c225)) an188 (loOf (les188 gl0)) 25 cd188 Tryz.f188.results.toList rm188 (ask188.mk' s) (decW rsk188 dec188)=B188 gl0 c225 s.1.1 s.1.2.1:=by kernel_rfl
end
noncomputable def an187:Ann:=⟨[],[],[]⟩
noncomputable def cd187:Code:=(Tryz.f187.body).getD .skip
noncomputable def rm187:List RM:=[.d (.ag (.pr .bo .st))]
noncomputable def les187:List (LoE R187):=[]
noncomputable def fes187 (c188:ByteArray→Int→Option R188) (c192:Bool→ByteArray→Option R192):List FE:=[(fe188 c188),(fe192 c192)]
section
variable (c188:ByteArray→Int→Option R188) (c192:Bool→ByteArray→Option R192)
noncomputable def B187 (x0:TI) (x1:Int):Option R187:=cnd (x0.1) (if(2:Int)=0 then(none)else((c188 x0.2 x1).bind fun r1=>((c192 (decide (Int.tmod x1 2=1)) r1).bind fun r2=>(some (r2.1,r2.2))))) ((c188 x0.2 x1).bind fun r3=>((c192 false r3).bind fun r4=>(some (r4.1,r4.2))))
theorem e187 (s:ask187.T):evFn E0 (orcOf (fes187 c188 c192)) an187 (loOf (les187)) 17 cd187 Tryz.f187.results.toList rm187 (ask187.mk' s) (decW rsk187 dec187)=B187 c188 c192 s.1.1 s.1.2.1:=by kernel_rfl
end
noncomputable def an143:Ann:=⟨[],[],[]⟩
noncomputable def cd143:Code:=(Tryz.f143.body).getD .skip
noncomputable def rm143:List RM:=[.d (.ag (.pr (.ag (.pr .bo .st)) .st))]
noncomputable def les143:List (LoE R143):=[]
noncomputable def fes143 (c187:TI→Int→Option R187) (c188:ByteArray→Int→Option R188):List FE:=[(fe187 c187),(fe188 c188)]
section
variable (c187:TI→Int→Option R187) (c188:ByteArray→Int→Option R188)
noncomputable def B143 (x0:TQ) (x1:Int):Option R143:=(c187 x0.1 x1).bind fun r1=>((c188 x0.2 x1).bind fun r2=>(some ((r1.1,r1.2),r2)))
theorem e143 (s:ask143.T):evFn E0 (orcOf (fes143 c187 c188)) an143 (loOf (les143)) 14 cd143 Tryz.f143.results.toList rm143 (ask143.mk' s) (decW rsk143 dec143)=B143 c187 c188 s.1.1 s.1.2.1:=by kernel_rfl
end
noncomputable def an190:Ann:=⟨[],[],[]⟩
noncomputable def cd190:Code:=(Tryz.f190.body).getD .skip
noncomputable def rm190:List RM:=[.d (.ag (.pr .bo .st))]
noncomputable def les190:List (LoE R190):=[]
noncomputable def fes190 (c192:Bool→ByteArray→Option R192):List FE:=[(fe192 c192)]
section
variable (c192:Bool→ByteArray→Option R192)
noncomputable def B190 (x0:TI):Option R190:=(c192 (!x0.1) x0.2).bind fun r1=>(some (r1.1,r1.2))
theorem e190 (s:ask190.T):evFn E0 (orcOf (fes190 c192)) an190 (loOf (les190)) 9 cd190 Tryz.f190.results.toList rm190 (ask190.mk' s) (decW rsk190 dec190)=B190 c192 s.1.1:=by kernel_rfl
end
noncomputable def an145:Ann:=⟨[],[],[]⟩
noncomputable def cd145:Code:=(Tryz.f145.body).getD .skip
noncomputable def rm145:List RM:=[.d (.ag (.pr (.ag (.pr .bo .st)) .st))]
noncomputable def les145:List (LoE R145):=[]
noncomputable def fes145 (c190:TI→Option R190):List FE:=[(fe190 c190)]
section
variable (c190:TI→Option R190)
noncomputable def B145 (x0:TQ):Option R145:=(c190 x0.1).bind fun r1=>(some ((r1.1,r1.2),x0.2))
theorem e145 (s:ask145.T):evFn E0 (orcOf (fes145 c190)) an145 (loOf (les145)) 9 cd145 Tryz.f145.results.toList rm145 (ask145.mk' s) (decW rsk145 dec145)=B145 c190 s.1.1:=by kernel_rfl
end
noncomputable def an226:Ann:=⟨[(7,[(5, .any),(6, .any),(7, .any),(8, .any),(27, .any),(28, .any)])],[],[]⟩
noncomputable def cd226:Code:=(Tryz.f226.body).getD .skip
noncomputable def p226:List Pos:=posns an226 [] cd226
noncomputable def rm226:List RM:=[.d .st]
noncomputable def rk226 (s0:SbT ask226.bl):KX R226:=retK E0 Tryz.f226.results.toList rm226 (mkB ask226.bl s0) (decW rsk226 dec226)
noncomputable def k226l0:Sk:=⟨[(5, .f (.a (.ref 5))),(6, .f (.a (.ref 6))),(7, .f (.a (.ref 7))),(8, .d (.it .u64)),(27, .d (.it .i64)),(28, .d (.it .i64))],[(5, .own (.it .u64) true),(6, .own (.it .u64) true),(7, .own (.it .u64) true)]⟩
noncomputable def les226 (gl0:Int→Int→Int→(List Int)→(List Int)→(List Int)→Option R226):List (LoE R226):=[⟨7,k226l0,fun s=>gl0 s.1.1 s.1.2.1 s.1.2.2.1 s.2.1 s.2.2.1 s.2.2.2.1⟩]
noncomputable def fes226 (c223:(List Int)→Option R223) (c225:ByteArray→Option R225) (c247:Int→Int→Int→Option R247):List FE:=[(fe223 c223),(fe225 c225),(fe247 c247)]
section
variable (gl0:Int→Int→Int→(List Int)→(List Int)→(List Int)→Option R226) (c223:(List Int)→Option R223) (c225:ByteArray→Option R225) (c247:Int→Int→Int→Option R247)
noncomputable def B226l0 (x8:Int) (x27:Int) (x28:Int) (x5:(List Int)) (x6:(List Int)) (x7:(List Int)):Option R226:=if x28<x27 then(if x28<(x6.length:Int)then(if 0≤x28 then(if x28<(x6.length:Int)then(if 0≤x28 then(if x28<(x5.length:Int)then((c247 (rd x5 x28) (rd x6 x28) x8).bind fun r1=>(if 0≤x28 then(if x28<(x7.length:Int)then(gl0 r1.2 x27 (wrap64 (x28+1)) x5 x6 (x7.set (x28:Int).toNat r1.1))else(none))else(none)))else(none))else(none))else(none))else(none))else(if 0≤x28 then(if x28<(x5.length:Int)then((c247 (rd x5 x28) 0 x8).bind fun r2=>(if 0≤x28 then(if x28<(x7.length:Int)then(gl0 r2.2 x27 (wrap64 (x28+1)) x5 x6 (x7.set (x28:Int).toNat r2.1))else(none))else(none)))else(none))else(none)))else(if 0≤(x5.length:Int)then(if(x5.length:Int)<(x7.length:Int)then((c223 (x7.set ((x5.length:Int):Int).toNat x8)).bind fun r3=>(some r3))else(none))else(none))
theorem e226l0 (s0:SbT ask226.bl) (s:k226l0.T):evPos E0 (orcOf (fes226 c223 c225 c247)) 60 an226 (loOf (les226 gl0)) (rk226 s0) (p226.getD 0 ⟨0,[], .skip⟩) (k226l0.mk' s)=B226l0 gl0 c223 c247 s.1.1 s.1.2.1 s.1.2.2.1 s.2.1 s.2.2.1 s.2.2.2.1:=by kernel_rfl
noncomputable def B226 (x0:ByteArray) (x1:ByteArray):Option R226:=(c225 x0).bind fun r1=>((c225 x1).bind fun r2=>(if(r1.length:Int)<(r2.length:Int)then(if 0≤wrap64 ((r2.length:Int)+1)then(if wrap64 ((r2.length:Int)+1)≤wrap64 ((r2.length:Int)+1)then(if(wrap64 ((r2.length:Int)+1):Int).toNat≤35184372088832 then(gl0 0 (r2.length:Int) 0 r2 r1 (List.replicate (wrap64 ((r2.length:Int)+1):Int).toNat (0:Int)))else(none))else(none))else(none))else(if 0≤wrap64 ((r1.length:Int)+1)then(if wrap64 ((r1.length:Int)+1)≤wrap64 ((r1.length:Int)+1)then(if(wrap64 ((r1.length:Int)+1):Int).toNat≤35184372088832 then(gl0 0 (r1.length:Int) 0 r1 r2 (List.replicate (wrap64 ((r1.length:Int)+1):Int).toNat (0:Int)))else(none))else(none))else(none))))
theorem e226 (s:ask226.T):evFn E0 (orcOf (fes226 c223 c225 c247)) an226 (loOf (les226 gl0)) 60 cd226 Tryz.f226.results.toList rm226 (ask226.mk' s) (decW rsk226 dec226)=B226 gl0 c225 s.1.1 s.1.2.1:=by kernel_rfl
end
noncomputable def an227:Ann:=⟨[],[],[]⟩
noncomputable def cd227:Code:=(Tryz.f227.body).getD .skip
noncomputable def rm227:List RM:=[.d (.it .i64)]
noncomputable def les227:List (LoE R227):=[]
noncomputable def fes227:List FE:=[]
noncomputable def B227 (x0:ByteArray) (x1:ByteArray):Option R227:=if(x0.size:Int)<(x1.size:Int)then(some (-1))else(if(x0.size:Int)=(x1.size:Int)then(cnd ((Op.bytesLess x0.toList x1.toList)) (some (-1)) (cnd ((eqS x0 x1)) (some 0) (some 1)))else(cnd ((eqS x0 x1)) (some 0) (some 1)))
theorem e227 (s:ask227.T):evFn E0 (orcOf (fes227)) an227 (loOf (les227)) 27 cd227 Tryz.f227.results.toList rm227 (ask227.mk' s) (decW rsk227 dec227)=B227 s.1.1 s.1.2.1:=by kernel_rfl
noncomputable def an228:Ann:=⟨[(4,[(5, .any),(6, .any),(7, .any),(15, .any),(16, .any)])],[],[]⟩
noncomputable def cd228:Code:=(Tryz.f228.body).getD .skip
noncomputable def p228:List Pos:=posns an228 [] cd228
noncomputable def rm228:List RM:=[.d .st]
noncomputable def rk228 (s0:SbT ask228.bl):KX R228:=retK E0 Tryz.f228.results.toList rm228 (mkB ask228.bl s0) (decW rsk228 dec228)
noncomputable def k228l0:Sk:=⟨[(5, .f (.a (.ref 5))),(6, .f (.a (.ref 6))),(7, .d (.it .u64)),(15, .d (.it .i64)),(16, .d (.it .i64))],[(5, .own (.it .u64) true),(6, .own (.it .u64) true)]⟩
noncomputable def les228 (gl0:Int→Int→Int→(List Int)→(List Int)→Option R228):List (LoE R228):=[⟨4,k228l0,fun s=>gl0 s.1.1 s.1.2.1 s.1.2.2.1 s.2.1 s.2.2.1⟩]
noncomputable def fes228 (c223:(List Int)→Option R223) (c225:ByteArray→Option R225) (c248:Int→Int→Int→Option R248):List FE:=[(fe223 c223),(fe225 c225),(fe248 c248)]
section
variable (gl0:Int→Int→Int→(List Int)→(List Int)→Option R228) (c223:(List Int)→Option R223) (c225:ByteArray→Option R225) (c248:Int→Int→Int→Option R248)
noncomputable def B228l0 (x7:Int) (x15:Int) (x16:Int) (x5:(List Int)) (x6:(List Int)):Option R228:=if x16<x15 then(if x16<(x6.length:Int)then(if 0≤x16 then(if x16<(x6.length:Int)then(if 0≤x16 then(if x16<(x5.length:Int)then((c248 (rd x5 x16) (rd x6 x16) x7).bind fun r1=>(if 0≤x16 then(if x16<(x5.length:Int)then(gl0 r1.2 x15 (wrap64 (x16+1)) (x5.set (x16:Int).toNat r1.1) x6)else(none))else(none)))else(none))else(none))else(none))else(none))else(if 0≤x16 then(if x16<(x5.length:Int)then((c248 (rd x5 x16) 0 x7).bind fun r2=>(if 0≤x16 then(if x16<(x5.length:Int)then(gl0 r2.2 x15 (wrap64 (x16+1)) (x5.set (x16:Int).toNat r2.1) x6)else(none))else(none)))else(none))else(none)))else((c223 x5).bind fun r3=>(some r3))
theorem e228l0 (s0:SbT ask228.bl) (s:k228l0.T):evPos E0 (orcOf (fes228 c223 c225 c248)) 43 an228 (loOf (les228 gl0)) (rk228 s0) (p228.getD 0 ⟨0,[], .skip⟩) (k228l0.mk' s)=B228l0 gl0 c223 c248 s.1.1 s.1.2.1 s.1.2.2.1 s.2.1 s.2.2.1:=by kernel_rfl
noncomputable def B228 (x0:ByteArray) (x1:ByteArray):Option R228:=(c225 x0).bind fun r1=>((c225 x1).bind fun r2=>(gl0 0 (r1.length:Int) 0 r1 r2))
theorem e228 (s:ask228.T):evFn E0 (orcOf (fes228 c223 c225 c248)) an228 (loOf (les228 gl0)) 43 cd228 Tryz.f228.results.toList rm228 (ask228.mk' s) (decW rsk228 dec228)=B228 gl0 c225 s.1.1 s.1.2.1:=by kernel_rfl
end
noncomputable def an191:Ann:=⟨[],[],[]⟩
noncomputable def cd191:Code:=(Tryz.f191.body).getD .skip
noncomputable def rm191:List RM:=[.d (.ag (.pr .bo .st))]
noncomputable def les191:List (LoE R191):=[]
noncomputable def fes191 (c192:Bool→ByteArray→Option R192) (c226:ByteArray→ByteArray→Option R226) (c227:ByteArray→ByteArray→Option R227) (c228:ByteArray→ByteArray→Option R228):List FE:=[(fe192 c192),(fe226 c226),(fe227 c227),(fe228 c228)]
section
variable (c192:Bool→ByteArray→Option R192) (c226:ByteArray→ByteArray→Option R226) (c227:ByteArray→ByteArray→Option R227) (c228:ByteArray→ByteArray→Option R228)
noncomputable def B191 (x0:TI) (x1:TI):Option R191:=cnd ((x0.1==x1.1)) ((c226 x0.2 x1.2).bind fun r1=>((c192 x0.1 r1).bind fun r2=>(some (r2.1,r2.2)))) ((c227 x0.2 x1.2).bind fun r3=>(if r3<0 then((c228 x1.2 x0.2).bind fun r4=>((c192 x1.1 r4).bind fun r5=>(some (r5.1,r5.2))))else((c228 x0.2 x1.2).bind fun r6=>((c192 x0.1 r6).bind fun r7=>(some (r7.1,r7.2))))))
theorem e191 (s:ask191.T):evFn E0 (orcOf (fes191 c192 c226 c227 c228)) an191 (loOf (les191)) 42 cd191 Tryz.f191.results.toList rm191 (ask191.mk' s) (decW rsk191 dec191)=B191 c192 c226 c227 c228 s.1.1 s.1.2.1:=by kernel_rfl
end
noncomputable def an148:Ann:=⟨[],[],[]⟩
noncomputable def cd148:Code:=(Tryz.f148.body).getD .skip
noncomputable def rm148:List RM:=[.d (.ag (.pr (.ag (.pr .bo .st)) .st))]
noncomputable def les148:List (LoE R148):=[]
noncomputable def fes148 (c149:TI→Option R149) (c185:TI→TI→Option R185) (c186:ByteArray→ByteArray→Option R186) (c191:TI→TI→Option R191) (c192:Bool→ByteArray→Option R192):List FE:=[(fe149 c149),(fe185 c185),(fe186 c186),(fe191 c191),(fe192 c192)]
section
variable (c149:TI→Option R149) (c185:TI→TI→Option R185) (c186:ByteArray→ByteArray→Option R186) (c191:TI→TI→Option R191) (c192:Bool→ByteArray→Option R192)
noncomputable def B148 (x0:TQ) (x1:TQ):Option R148:=cnd ((eqS x0.2 x1.2)) (cnd ((eqS x0.2 (⟨#[1]⟩:ByteArray))) ((c191 x0.1 x1.1).bind fun r1=>((c149 (r1.1,r1.2)).bind fun r2=>(some (r2.1,r2.2)))) ((c191 x0.1 x1.1).bind fun r3=>((c185 (r3.1,r3.2) (false,x0.2)).bind fun r4=>(some (r4.1,r4.2))))) ((c186 x0.1.2 x1.2).bind fun r5=>((c192 x0.1.1 r5).bind fun r6=>((c186 x1.1.2 x0.2).bind fun r7=>((c192 x1.1.1 r7).bind fun r8=>((c191 (r6.1,r6.2) (r8.1,r8.2)).bind fun r9=>((c186 x0.2 x1.2).bind fun r10=>((c185 (r9.1,r9.2) (false,r10)).bind fun r11=>(some (r11.1,r11.2)))))))))
theorem e148 (s:ask148.T):evFn E0 (orcOf (fes148 c149 c185 c186 c191 c192)) an148 (loOf (les148)) 58 cd148 Tryz.f148.results.toList rm148 (ask148.mk' s) (decW rsk148 dec148)=B148 c149 c185 c186 c191 c192 s.1.1 s.1.2.1:=by kernel_rfl
end
noncomputable def an88:Ann:=⟨[],[],[]⟩
noncomputable def cd88:Code:=(Tryz.f88.body).getD .skip
noncomputable def rm88:List RM:=[.d (.ag (.pr (.ag (.pr .bo .st)) .st))]
noncomputable def les88:List (LoE R88):=[]
noncomputable def fes88 (c145:TQ→Option R145) (c148:TQ→TQ→Option R148):List FE:=[(fe145 c145),(fe148 c148)]
section
variable (c145:TQ→Option R145) (c148:TQ→TQ→Option R148)
noncomputable def B88 (x0:TQ) (x1:TQ):Option R88:=(c145 x1).bind fun r1=>((c148 x0 (r1.1,r1.2)).bind fun r2=>(some (r2.1,r2.2)))
theorem e88 (s:ask88.T):evFn E0 (orcOf (fes88 c145 c148)) an88 (loOf (les88)) 9 cd88 Tryz.f88.results.toList rm88 (ask88.mk' s) (decW rsk88 dec88)=B88 c145 c148 s.1.1 s.1.2.1:=by kernel_rfl
end
noncomputable def an92:Ann:=⟨[(2,[(0, .any),(3, .any)])],[],[]⟩
noncomputable def cd92:Code:=(Tryz.f92.body).getD .skip
noncomputable def p92:List Pos:=posns an92 [] cd92
noncomputable def rm92:List RM:=[.d (.li (.ag (.pr (.ag (.pr .bo .st)) .st)))]
noncomputable def rk92 (s0:SbT ask92.bl):KX R92:=retK E0 Tryz.f92.results.toList rm92 (mkB ask92.bl s0) (decW rsk92 dec92)
noncomputable def k92l0:Sk:=⟨[(0, .d (.li (.ag (.pr (.ag (.pr .bo .st)) .st)))),(3, .d (.it .i64))],[]⟩
noncomputable def les92 (gl0:(List TQ)→Int→Option R92):List (LoE R92):=[⟨2,k92l0,fun s=>gl0 s.1.1 s.1.2.1⟩]
noncomputable def fes92 (c152:TQ→Option R152):List FE:=[(fe152 c152)]
section
variable (gl0:(List TQ)→Int→Option R92) (c152:TQ→Option R152)
noncomputable def B92l0 (x0:(List TQ)) (x3:Int):Option R92:=if x3>0 then(if 0≤wrap64 (x3-1)then(if wrap64 (x3-1)<(x0.length:Int)then((c152 (rdOf ((false,(⟨#[]⟩:ByteArray)),(⟨#[]⟩:ByteArray)) x0 (wrap64 (x3-1)))).bind fun r1=>(cnd (r1) (gl0 x0 (wrap64 (x3-1))) (if(0:Int)≤0 then(if 0≤x3 then(if x3≤x3 then(if x3≤(x0.length:Int)then(some (slice_ x0 0 x3))else(none))else(none))else(none))else(none))))else(none))else(none))else(if(0:Int)≤0 then(if 0≤x3 then(if x3≤x3 then(if x3≤(x0.length:Int)then(some (slice_ x0 0 x3))else(none))else(none))else(none))else(none))
theorem e92l0 (s0:SbT ask92.bl) (s:k92l0.T):evPos E0 (orcOf (fes92 c152)) 22 an92 (loOf (les92 gl0)) (rk92 s0) (p92.getD 0 ⟨0,[], .skip⟩) (k92l0.mk' s)=B92l0 gl0 c152 s.1.1 s.1.2.1:=by kernel_rfl
noncomputable def B92 (x0:(List TQ)):Option R92:=gl0 x0 (x0.length:Int)
theorem e92 (s:ask92.T):evFn E0 (orcOf (fes92 c152)) an92 (loOf (les92 gl0)) 22 cd92 Tryz.f92.results.toList rm92 (ask92.mk' s) (decW rsk92 dec92)=B92 gl0 s.1.1:=by kernel_rfl
end
noncomputable def an147:Ann:=⟨[],[],[]⟩
noncomputable def cd147:Code:=(Tryz.f147.body).getD .skip
noncomputable def rm147:List RM:=[.d (.ag (.pr (.ag (.pr .bo .st)) .st))]
noncomputable def les147:List (LoE R147):=[]
noncomputable def fes147:List FE:=[]
noncomputable def B147 (x0:TQ):Option R147:=some ((x0.1.1,x0.2),x0.1.2)
theorem e147 (s:ask147.T):evFn E0 (orcOf (fes147)) an147 (loOf (les147)) 13 cd147 Tryz.f147.results.toList rm147 (ask147.mk' s) (decW rsk147 dec147)=B147 s.1.1:=by kernel_rfl
noncomputable def an189n:Ann:=⟨[],[],[]⟩
noncomputable def cd189n:Code:=(Tryz.f189.body).getD .skip
noncomputable def rm189n:List RM:=[.own (.ag (.pr (.ag (.pr .bo .st)) .st))]
noncomputable def les189n:List (LoE R189n):=[]
noncomputable def fes189n:List FE:=[]
noncomputable def B189n (x0:(List TQ)):Option R189n:=some ([]:List TQ)
theorem e189n (s:ask189n.T):evFn E0 (orcOf (fes189n)) an189n (loOf (les189n)) 8 cd189n Tryz.f189.results.toList rm189n (ask189n.mk' s) (decW rsk189n dec189n)=B189n s.1.1:=by kernel_rfl
noncomputable def an189m:Ann:=⟨[],[],[]⟩
noncomputable def cd189m:Code:=(Tryz.f189.body).getD .skip
noncomputable def rm189m:List RM:=[.own (.ag (.pr (.ag (.pr .bo .st)) .st))]
noncomputable def les189m:List (LoE R189m):=[]
noncomputable def fes189m:List FE:=[]
noncomputable def B189m (x0:(List TQ)):Option R189m:=if(([]:List TQ).length+x0.length)*40≤140737488355328 then(some (([]:List TQ)++x0))else(none)
theorem e189m (s:ask189m.T):evFn E0 (orcOf (fes189m)) an189m (loOf (les189m)) 8 cd189m Tryz.f189.results.toList rm189m (ask189m.mk' s) (decW rsk189m dec189m)=B189m s.1.1:=by kernel_rfl
noncomputable def an144:Ann:=⟨[(7,[(0, .any),(1, .any),(6, .any),(7, .any),(8, .any),(30, .any),(31, .any)]),(13,[(1, .any),(6, .any),(7, .any),(8, .any),(10, .any),(11, .any)]),(19,[(1, .any),(6, .any),(7, .any),(8, .any),(10, .any),(11, .any),(12, .any),(69, .any),(70, .any)])],[],[]⟩
noncomputable def cd144:Code:=(Tryz.f144.body).getD .skip
noncomputable def p144:List Pos:=posns an144 [] cd144
noncomputable def rm144:List RM:=[.d (.li (.ag (.pr (.ag (.pr .bo .st)) .st))), .d (.li (.ag (.pr (.ag (.pr .bo .st)) .st)))]
noncomputable def rk144 (s0:SbT ask144.bl):KX R144:=retK E0 Tryz.f144.results.toList rm144 (mkB ask144.bl s0) (decW rsk144 dec144)
noncomputable def k144l0:Sk:=⟨[(0, .d (.li (.ag (.pr (.ag (.pr .bo .st)) .st)))),(1, .d (.li (.ag (.pr (.ag (.pr .bo .st)) .st)))),(6, .f (.a (.ref 6))),(7, .d (.it .i64)),(8, .f (.a (.ref 8))),(30, .d (.it .i64)),(31, .d (.it .i64))],[(6, .own (.ag (.pr (.ag (.pr .bo .st)) .st)) true),(8, .own (.ag (.pr (.ag (.pr .bo .st)) .st)) true)]⟩
noncomputable def k144l1:Sk:=⟨[(1, .d (.li (.ag (.pr (.ag (.pr .bo .st)) .st)))),(6, .f (.a (.ref 6))),(7, .d (.it .i64)),(8, .f (.a (.ref 8))),(10, .f (.a (.ptr 10 0 []))),(11, .d (.it .i64))],[(6, .own (.ag (.pr (.ag (.pr .bo .st)) .st)) true),(8, .own (.ag (.pr (.ag (.pr .bo .st)) .st)) true),(10, .cell (.ag (.pr (.ag (.pr .bo .st)) .st)) true)]⟩
noncomputable def k144l2:Sk:=⟨[(1, .d (.li (.ag (.pr (.ag (.pr .bo .st)) .st)))),(6, .f (.a (.ref 6))),(7, .d (.it .i64)),(8, .f (.a (.ref 8))),(10, .f (.a (.ptr 10 0 []))),(11, .d (.it .i64)),(12, .f (.a (.ptr 12 0 []))),(69, .d (.it .i64)),(70, .d (.it .i64))],[(6, .own (.ag (.pr (.ag (.pr .bo .st)) .st)) true),(8, .own (.ag (.pr (.ag (.pr .bo .st)) .st)) true),(10, .cell (.ag (.pr (.ag (.pr .bo .st)) .st)) true),(12, .cell (.ag (.pr (.ag (.pr .bo .st)) .st)) true)]⟩
noncomputable def les144 (gl0:(List TQ)→(List TQ)→Int→Int→Int→(List TQ)→(List TQ)→Option R144) (gl1:(List TQ)→Int→Int→(List TQ)→(List TQ)→TQ→Option R144) (gl2:(List TQ)→Int→Int→Int→Int→(List TQ)→(List TQ)→TQ→TQ→Option R144):List (LoE R144):=[⟨7,k144l0,fun s=>gl0 s.1.1 s.1.2.1 s.1.2.2.1 s.1.2.2.2.1 s.1.2.2.2.2.1 s.2.1 s.2.2.1⟩,⟨13,k144l1,fun s=>gl1 s.1.1 s.1.2.1 s.1.2.2.1 s.2.1 s.2.2.1 s.2.2.2.1⟩,⟨19,k144l2,fun s=>gl2 s.1.1 s.1.2.1 s.1.2.2.1 s.1.2.2.2.1 s.1.2.2.2.2.1 s.2.1 s.2.2.1 s.2.2.2.1 s.2.2.2.2.1⟩]
noncomputable def fes144 (c88:TQ→TQ→Option R88) (c89:Int→Option R89) (c92:(List TQ)→Option R92) (c142:TQ→TQ→Option R142) (c147:TQ→Option R147) (c152:TQ→Option R152) (c189:(List TQ)→Option R189):List FE:=[(fe88 c88),(fe89 c89),(fe92 c92),(fe142 c142),(fe147 c147),(fe152 c152),(fe189 c189)]
section
variable (gl0:(List TQ)→(List TQ)→Int→Int→Int→(List TQ)→(List TQ)→Option R144) (gl1:(List TQ)→Int→Int→(List TQ)→(List TQ)→TQ→Option R144) (gl2:(List TQ)→Int→Int→Int→Int→(List TQ)→(List TQ)→TQ→TQ→Option R144) (c88:TQ→TQ→Option R88) (c89:Int→Option R89) (c92:(List TQ)→Option R92) (c142:TQ→TQ→Option R142) (c147:TQ→Option R147) (c152:TQ→Option R152) (c189:(List TQ)→Option R189)
noncomputable def B144l0 (x0:(List TQ)) (x1:(List TQ)) (x7:Int) (x30:Int) (x31:Int) (x6:(List TQ)) (x8:(List TQ)):Option R144:=if x31<x30 then((c89 0).bind fun r1=>(if 0≤x31 then(if x31<(x8.length:Int)then(gl0 x0 x1 x7 x30 (wrap64 (x31+1)) x6 (x8.set (x31:Int).toNat (r1.1,r1.2)))else(none))else(none)))else(if 0≤wrap64 (x7-1)then(if wrap64 (x7-1)<(x1.length:Int)then((c147 (rdOf ((false,(⟨#[]⟩:ByteArray)),(⟨#[]⟩:ByteArray)) x1 (wrap64 (x7-1)))).bind fun r2=>(gl1 x1 x7 (wrap64 ((x0.length:Int)-x7)) x6 x8 (r2.1,r2.2)))else(none))else(none))
theorem e144l0 (s0:SbT ask144.bl) (s:k144l0.T):evPos E0 (orcOf (fes144 c88 c89 c92 c142 c147 c152 c189)) 99 an144 (loOf (les144 gl0 gl1 gl2)) (rk144 s0) (p144.getD 0 ⟨0,[], .skip⟩) (k144l0.mk' s)=B144l0 gl0 gl1 c89 c147 s.1.1 s.1.2.1 s.1.2.2.1 s.1.2.2.2.1 s.1.2.2.2.2.1 s.2.1 s.2.2.1:=by kernel_rfl
noncomputable def B144l1 (x1:(List TQ)) (x7:Int) (x11:Int) (x6:(List TQ)) (x8:(List TQ)) (x10:TQ):Option R144:=if x11≥0 then(if 0≤wrap64 ((wrap64 (x11+x7))-1)then(if wrap64 ((wrap64 (x11+x7))-1)<(x6.length:Int)then((c142 (rdOf ((false,(⟨#[]⟩:ByteArray)),(⟨#[]⟩:ByteArray)) x6 (wrap64 ((wrap64 (x11+x7))-1))) x10).bind fun r1=>(if 0≤x11 then(if x11<(x8.length:Int)then((c152 (r1.1,r1.2)).bind fun r2=>(cnd (r2) (gl1 x1 x7 (wrap64 (x11-1)) x6 (x8.set (x11:Int).toNat (r1.1,r1.2)) x10) (gl2 x1 x7 x11 (x1.length:Int) 0 x6 (x8.set (x11:Int).toNat (r1.1,r1.2)) x10 (r1.1,r1.2))))else(none))else(none)))else(none))else(none))else((c92 x8).bind fun r3=>(if(0:Int)≤0 then(if 0≤wrap64 (x7-1)then(if wrap64 (x7-1)≤(x6.length:Int)then(if(x6.length:Int)≤(x6.length:Int)then((c92 (slice_ x6 0 (wrap64 (x7-1)))).bind fun r4=>(some (r3,r4)))else(none))else(none))else(none))else(none)))
theorem e144l1 (s0:SbT ask144.bl) (s:k144l1.T):evPos E0 (orcOf (fes144 c88 c89 c92 c142 c147 c152 c189)) 99 an144 (loOf (les144 gl0 gl1 gl2)) (rk144 s0) (p144.getD 1 ⟨0,[], .skip⟩) (k144l1.mk' s)=B144l1 gl1 gl2 c92 c142 c152 s.1.1 s.1.2.1 s.1.2.2.1 s.2.1 s.2.2.1 s.2.2.2.1:=by kernel_rfl
noncomputable def B144l2 (x1:(List TQ)) (x7:Int) (x11:Int) (x69:Int) (x70:Int) (x6:(List TQ)) (x8:(List TQ)) (x10:TQ) (x12:TQ):Option R144:=if x70<x69 then(if 0≤wrap64 (x11+x70)then(if wrap64 (x11+x70)<(x6.length:Int)then(if 0≤x70 then(if x70<(x1.length:Int)then((c142 x12 (rdOf ((false,(⟨#[]⟩:ByteArray)),(⟨#[]⟩:ByteArray)) x1 x70)).bind fun r1=>((c88 (rdOf ((false,(⟨#[]⟩:ByteArray)),(⟨#[]⟩:ByteArray)) x6 (wrap64 (x11+x70))) (r1.1,r1.2)).bind fun r2=>(if 0≤wrap64 (x11+x70)then(if wrap64 (x11+x70)<(x6.length:Int)then(gl2 x1 x7 x11 x69 (wrap64 (x70+1)) (x6.set (wrap64 (x11+x70):Int).toNat (r2.1,r2.2)) x8 x10 x12)else(none))else(none))))else(none))else(none))else(none))else(none))else(gl1 x1 x7 (wrap64 (x11-1)) x6 x8 x10)
theorem e144l2 (s0:SbT ask144.bl) (s:k144l2.T):evPos E0 (orcOf (fes144 c88 c89 c92 c142 c147 c152 c189)) 99 an144 (loOf (les144 gl0 gl1 gl2)) (rk144 s0) (p144.getD 2 ⟨0,[], .skip⟩) (k144l2.mk' s)=B144l2 gl1 gl2 c88 c142 s.1.1 s.1.2.1 s.1.2.2.1 s.1.2.2.2.1 s.1.2.2.2.2.1 s.2.1 s.2.2.1 s.2.2.2.1 s.2.2.2.2.1:=by kernel_rfl
noncomputable def B144 (x0:(List TQ)) (x1:(List TQ)):Option R144:=(c189 x0).bind fun r1=>(if(x0.length:Int)<(x1.length:Int)then(some (([]:List TQ),r1))else(if 0≤wrap64 ((wrap64 ((x0.length:Int)-(x1.length:Int)))+1)then(if wrap64 ((wrap64 ((x0.length:Int)-(x1.length:Int)))+1)≤wrap64 ((wrap64 ((x0.length:Int)-(x1.length:Int)))+1)then(if(wrap64 ((wrap64 ((x0.length:Int)-(x1.length:Int)))+1):Int).toNat≤7036874417766 then(gl0 x0 x1 (x1.length:Int) ((List.replicate (wrap64 ((wrap64 ((x0.length:Int)-(x1.length:Int)))+1):Int).toNat ((false,(⟨#[]⟩:ByteArray)),(⟨#[]⟩:ByteArray))).length:Int) 0 r1 (List.replicate (wrap64 ((wrap64 ((x0.length:Int)-(x1.length:Int)))+1):Int).toNat ((false,(⟨#[]⟩:ByteArray)),(⟨#[]⟩:ByteArray))))else(none))else(none))else(none)))
theorem e144 (s:ask144.T):evFn E0 (orcOf (fes144 c88 c89 c92 c142 c147 c152 c189)) an144 (loOf (les144 gl0 gl1 gl2)) 99 cd144 Tryz.f144.results.toList rm144 (ask144.mk' s) (decW rsk144 dec144)=B144 gl0 c189 s.1.1 s.1.2.1:=by kernel_rfl
end
noncomputable def an84:Ann:=⟨[(2,[(0, .any),(1, .any),(4, .any),(5, .any)])],[],[]⟩
noncomputable def cd84:Code:=(Tryz.f84.body).getD .skip
noncomputable def p84:List Pos:=posns an84 [] cd84
noncomputable def rm84:List RM:=[.d (.ag (.pr (.ag (.pr .bo .st)) .st))]
noncomputable def rk84 (s0:SbT ask84.bl):KX R84:=retK E0 Tryz.f84.results.toList rm84 (mkB ask84.bl s0) (decW rsk84 dec84)
noncomputable def k84l0:Sk:=⟨[(0, .d (.li (.ag (.pr (.ag (.pr .bo .st)) .st)))),(1, .d (.li (.ag (.pr (.ag (.pr .bo .st)) .st)))),(4, .f (.a (.ptr 4 0 []))),(5, .f (.a (.ptr 5 0 [])))],[(4, .cell (.ag (.pr (.ag (.pr .bo .st)) .st)) true),(5, .cell (.ag (.pr (.ag (.pr .bo .st)) .st)) true)]⟩
noncomputable def les84 (gl0:(List TQ)→(List TQ)→TQ→TQ→Option R84):List (LoE R84):=[⟨2,k84l0,fun s=>gl0 s.1.1 s.1.2.1 s.2.1 s.2.2.1⟩]
noncomputable def fes84 (c89:Int→Option R89) (c142:TQ→TQ→Option R142) (c143:TQ→Int→Option R143) (c144:(List TQ)→(List TQ)→Option R144) (c145:TQ→Option R145):List FE:=[(fe89 c89),(fe142 c142),(fe143 c143),(fe144 c144),(fe145 c145)]
section
variable (gl0:(List TQ)→(List TQ)→TQ→TQ→Option R84) (c89:Int→Option R89) (c142:TQ→TQ→Option R142) (c143:TQ→Int→Option R143) (c144:(List TQ)→(List TQ)→Option R144) (c145:TQ→Option R145)
noncomputable def B84l0 (x0:(List TQ)) (x1:(List TQ)) (x4:TQ) (x5:TQ):Option R84:=if wrap64 ((x1.length:Int)-1)<0 then(if wrap64 ((x0.length:Int)-1)>0 then((c89 0).bind fun r1=>(some (r1.1,r1.2)))else(if wrap64 ((x1.length:Int)-1)<0 then(some (x5.1,x5.2))else(if wrap64 ((x1.length:Int)-1)=0 then(if(0:Int)≤0 then(if 0<(x1.length:Int)then((c143 (rdOf ((false,(⟨#[]⟩:ByteArray)),(⟨#[]⟩:ByteArray)) x1 0) (wrap64 ((x0.length:Int)-1))).bind fun r2=>((c142 x5 (r2.1,r2.2)).bind fun r3=>(some (r3.1,r3.2))))else(none))else(none))else((c144 x0 x1).bind fun r4=>(if(r4.2.length:Int)=0 then((c89 0).bind fun r5=>(some (r5.1,r5.2)))else(if(2:Int)=0 then(none)else(if Int.tmod (wrap64 ((wrap64 ((x0.length:Int)-1))*(wrap64 ((x1.length:Int)-1)))) 2=1 then((c145 x5).bind fun r6=>(if 0≤wrap64 ((x1.length:Int)-1)then(if wrap64 ((x1.length:Int)-1)<(x1.length:Int)then((c143 (rdOf ((false,(⟨#[]⟩:ByteArray)),(⟨#[]⟩:ByteArray)) x1 (wrap64 ((x1.length:Int)-1))) (wrap64 ((wrap64 ((wrap64 ((x0.length:Int)-1))-(r4.2.length:Int)))+1))).bind fun r7=>((c142 (r6.1,r6.2) (r7.1,r7.2)).bind fun r8=>(gl0 x1 r4.2 x4 (r8.1,r8.2))))else(none))else(none)))else(if 0≤wrap64 ((x1.length:Int)-1)then(if wrap64 ((x1.length:Int)-1)<(x1.length:Int)then((c143 (rdOf ((false,(⟨#[]⟩:ByteArray)),(⟨#[]⟩:ByteArray)) x1 (wrap64 ((x1.length:Int)-1))) (wrap64 ((wrap64 ((wrap64 ((x0.length:Int)-1))-(r4.2.length:Int)))+1))).bind fun r9=>((c142 x5 (r9.1,r9.2)).bind fun r10=>(gl0 x1 r4.2 x4 (r10.1,r10.2))))else(none))else(none)))))))))else(if wrap64 ((x1.length:Int)-1)<0 then(some (x5.1,x5.2))else(if wrap64 ((x1.length:Int)-1)=0 then(if(0:Int)≤0 then(if 0<(x1.length:Int)then((c143 (rdOf ((false,(⟨#[]⟩:ByteArray)),(⟨#[]⟩:ByteArray)) x1 0) (wrap64 ((x0.length:Int)-1))).bind fun r11=>((c142 x5 (r11.1,r11.2)).bind fun r12=>(some (r12.1,r12.2))))else(none))else(none))else((c144 x0 x1).bind fun r13=>(if(r13.2.length:Int)=0 then((c89 0).bind fun r14=>(some (r14.1,r14.2)))else(if(2:Int)=0 then(none)else(if Int.tmod (wrap64 ((wrap64 ((x0.length:Int)-1))*(wrap64 ((x1.length:Int)-1)))) 2=1 then((c145 x5).bind fun r15=>(if 0≤wrap64 ((x1.length:Int)-1)then(if wrap64 ((x1.length:Int)-1)<(x1.length:Int)then((c143 (rdOf ((false,(⟨#[]⟩:ByteArray)),(⟨#[]⟩:ByteArray)) x1 (wrap64 ((x1.length:Int)-1))) (wrap64 ((wrap64 ((wrap64 ((x0.length:Int)-1))-(r13.2.length:Int)))+1))).bind fun r16=>((c142 (r15.1,r15.2) (r16.1,r16.2)).bind fun r17=>(gl0 x1 r13.2 x4 (r17.1,r17.2))))else(none))else(none)))else(if 0≤wrap64 ((x1.length:Int)-1)then(if wrap64 ((x1.length:Int)-1)<(x1.length:Int)then((c143 (rdOf ((false,(⟨#[]⟩:ByteArray)),(⟨#[]⟩:ByteArray)) x1 (wrap64 ((x1.length:Int)-1))) (wrap64 ((wrap64 ((wrap64 ((x0.length:Int)-1))-(r13.2.length:Int)))+1))).bind fun r18=>((c142 x5 (r18.1,r18.2)).bind fun r19=>(gl0 x1 r13.2 x4 (r19.1,r19.2))))else(none))else(none))))))))
theorem e84l0 (s0:SbT ask84.bl) (s:k84l0.T):evPos E0 (orcOf (fes84 c89 c142 c143 c144 c145)) 70 an84 (loOf (les84 gl0)) (rk84 s0) (p84.getD 0 ⟨0,[], .skip⟩) (k84l0.mk' s)=B84l0 gl0 c89 c142 c143 c144 c145 s.1.1 s.1.2.1 s.2.1 s.2.2.1:=by kernel_rfl
noncomputable def B84 (x0:(List TQ)) (x1:(List TQ)):Option R84:=(c89 1).bind fun r1=>(gl0 x0 x1 ((false,(⟨#[]⟩:ByteArray)),(⟨#[]⟩:ByteArray)) (r1.1,r1.2))
theorem e84 (s:ask84.T):evFn E0 (orcOf (fes84 c89 c142 c143 c144 c145)) an84 (loOf (les84 gl0)) 70 cd84 Tryz.f84.results.toList rm84 (ask84.mk' s) (decW rsk84 dec84)=B84 gl0 c89 s.1.1 s.1.2.1:=by kernel_rfl
end
noncomputable def an151:Ann:=⟨[],[],[]⟩
noncomputable def cd151:Code:=(Tryz.f151.body).getD .skip
noncomputable def rm151:List RM:=[.d (.ag (.pr (.ag (.pr .bo .st)) .st))]
noncomputable def les151:List (LoE R151):=[]
noncomputable def fes151 (c89:Int→Option R89):List FE:=[(fe89 c89)]
section
variable (c89:Int→Option R89)
noncomputable def B151 (x0:(List TQ)) (x1:Int):Option R151:=if x1<0 then((c89 0).bind fun r1=>(some (r1.1,r1.2)))else(if x1≥(x0.length:Int)then((c89 0).bind fun r2=>(some (r2.1,r2.2)))else(if 0≤x1 then(if x1<(x0.length:Int)then(some ((rdOf ((false,(⟨#[]⟩:ByteArray)),(⟨#[]⟩:ByteArray)) x0 x1).1,(rdOf ((false,(⟨#[]⟩:ByteArray)),(⟨#[]⟩:ByteArray)) x0 x1).2))else(none))else(none)))
theorem e151 (s:ask151.T):evFn E0 (orcOf (fes151 c89)) an151 (loOf (les151)) 18 cd151 Tryz.f151.results.toList rm151 (ask151.mk' s) (decW rsk151 dec151)=B151 c89 s.1.1 s.1.2.1:=by kernel_rfl
end
noncomputable def an90:Ann:=⟨[(3,[(0, .any),(1, .any),(5, .any),(14, .any),(15, .any)])],[],[]⟩
noncomputable def cd90:Code:=(Tryz.f90.body).getD .skip
noncomputable def p90:List Pos:=posns an90 [] cd90
noncomputable def rm90:List RM:=[.d (.li (.ag (.pr (.ag (.pr .bo .st)) .st)))]
noncomputable def rk90 (s0:SbT ask90.bl):KX R90:=retK E0 Tryz.f90.results.toList rm90 (mkB ask90.bl s0) (decW rsk90 dec90)
noncomputable def k90l0:Sk:=⟨[(0, .d (.li (.ag (.pr (.ag (.pr .bo .st)) .st)))),(1, .d (.li (.ag (.pr (.ag (.pr .bo .st)) .st)))),(5, .f (.a (.ref 5))),(14, .d (.it .i64)),(15, .d (.it .i64))],[(5, .own (.ag (.pr (.ag (.pr .bo .st)) .st)) true)]⟩
noncomputable def les90 (gl0:(List TQ)→(List TQ)→Int→Int→(List TQ)→Option R90):List (LoE R90):=[⟨3,k90l0,fun s=>gl0 s.1.1 s.1.2.1 s.1.2.2.1 s.1.2.2.2.1 s.2.1⟩]
noncomputable def fes90 (c92:(List TQ)→Option R92) (c148:TQ→TQ→Option R148) (c151:(List TQ)→Int→Option R151):List FE:=[(fe92 c92),(fe148 c148),(fe151 c151)]
section
variable (gl0:(List TQ)→(List TQ)→Int→Int→(List TQ)→Option R90) (c92:(List TQ)→Option R92) (c148:TQ→TQ→Option R148) (c151:(List TQ)→Int→Option R151)
noncomputable def B90l0 (x0:(List TQ)) (x1:(List TQ)) (x14:Int) (x15:Int) (x5:(List TQ)):Option R90:=if x15<x14 then((c151 x0 x15).bind fun r1=>((c151 x1 x15).bind fun r2=>((c148 (r1.1,r1.2) (r2.1,r2.2)).bind fun r3=>(if 0≤x15 then(if x15<(x5.length:Int)then(gl0 x0 x1 x14 (wrap64 (x15+1)) (x5.set (x15:Int).toNat (r3.1,r3.2)))else(none))else(none)))))else((c92 x5).bind fun r4=>(some r4))
theorem e90l0 (s0:SbT ask90.bl) (s:k90l0.T):evPos E0 (orcOf (fes90 c92 c148 c151)) 31 an90 (loOf (les90 gl0)) (rk90 s0) (p90.getD 0 ⟨0,[], .skip⟩) (k90l0.mk' s)=B90l0 gl0 c92 c148 c151 s.1.1 s.1.2.1 s.1.2.2.1 s.1.2.2.2.1 s.2.1:=by kernel_rfl
noncomputable def B90 (x0:(List TQ)) (x1:(List TQ)):Option R90:=if 0≤mx (x0.length:Int) (x1.length:Int)then(if mx (x0.length:Int) (x1.length:Int)≤mx (x0.length:Int) (x1.length:Int)then(if(mx (x0.length:Int) (x1.length:Int):Int).toNat≤7036874417766 then(gl0 x0 x1 ((List.replicate (mx (x0.length:Int) (x1.length:Int):Int).toNat ((false,(⟨#[]⟩:ByteArray)),(⟨#[]⟩:ByteArray))).length:Int) 0 (List.replicate (mx (x0.length:Int) (x1.length:Int):Int).toNat ((false,(⟨#[]⟩:ByteArray)),(⟨#[]⟩:ByteArray))))else(none))else(none))else(none)
theorem e90 (s:ask90.T):evFn E0 (orcOf (fes90 c92 c148 c151)) an90 (loOf (les90 gl0)) 31 cd90 Tryz.f90.results.toList rm90 (ask90.mk' s) (decW rsk90 dec90)=B90 gl0 s.1.1 s.1.2.1:=by kernel_rfl
end
noncomputable def an91:Ann:=⟨[(5,[(0, .any),(1, .any),(5, .any),(27, .any),(28, .any)]),(10,[(1, .any),(5, .any),(36, .any),(37, .any),(38, .any)]),(14,[(1, .any),(5, .any),(7, .any),(8, .any),(36, .any),(37, .any),(38, .any),(45, .any),(46, .any),(47, .any)])],[],[]⟩
noncomputable def cd91:Code:=(Tryz.f91.body).getD .skip
noncomputable def p91:List Pos:=posns an91 [] cd91
noncomputable def rm91:List RM:=[.d (.li (.ag (.pr (.ag (.pr .bo .st)) .st)))]
noncomputable def rk91 (s0:SbT ask91.bl):KX R91:=retK E0 Tryz.f91.results.toList rm91 (mkB ask91.bl s0) (decW rsk91 dec91)
noncomputable def k91l0:Sk:=⟨[(0, .d (.li (.ag (.pr (.ag (.pr .bo .st)) .st)))),(1, .d (.li (.ag (.pr (.ag (.pr .bo .st)) .st)))),(5, .f (.a (.ref 5))),(27, .d (.it .i64)),(28, .d (.it .i64))],[(5, .own (.ag (.pr (.ag (.pr .bo .st)) .st)) true)]⟩
noncomputable def k91l1:Sk:=⟨[(1, .d (.li (.ag (.pr (.ag (.pr .bo .st)) .st)))),(5, .f (.a (.ref 5))),(36, .d (.li (.ag (.pr (.ag (.pr .bo .st)) .st)))),(37, .d (.it .i64)),(38, .d (.it .i64))],[(5, .own (.ag (.pr (.ag (.pr .bo .st)) .st)) true)]⟩
noncomputable def k91l2:Sk:=⟨[(1, .d (.li (.ag (.pr (.ag (.pr .bo .st)) .st)))),(5, .f (.a (.ref 5))),(7, .d (.it .i64)),(8, .f (.a (.ptr 8 0 []))),(36, .d (.li (.ag (.pr (.ag (.pr .bo .st)) .st)))),(37, .d (.it .i64)),(38, .d (.it .i64)),(45, .d (.li (.ag (.pr (.ag (.pr .bo .st)) .st)))),(46, .d (.it .i64)),(47, .d (.it .i64))],[(5, .own (.ag (.pr (.ag (.pr .bo .st)) .st)) true),(8, .cell (.ag (.pr (.ag (.pr .bo .st)) .st)) true)]⟩
noncomputable def les91 (gl0:(List TQ)→(List TQ)→Int→Int→(List TQ)→Option R91) (gl1:(List TQ)→(List TQ)→Int→Int→(List TQ)→Option R91) (gl2:(List TQ)→Int→(List TQ)→Int→Int→(List TQ)→Int→Int→(List TQ)→TQ→Option R91):List (LoE R91):=[⟨5,k91l0,fun s=>gl0 s.1.1 s.1.2.1 s.1.2.2.1 s.1.2.2.2.1 s.2.1⟩,⟨10,k91l1,fun s=>gl1 s.1.1 s.1.2.1 s.1.2.2.1 s.1.2.2.2.1 s.2.1⟩,⟨14,k91l2,fun s=>gl2 s.1.1 s.1.2.1 s.1.2.2.1 s.1.2.2.2.1 s.1.2.2.2.2.1 s.1.2.2.2.2.2.1 s.1.2.2.2.2.2.2.1 s.1.2.2.2.2.2.2.2.1 s.2.1 s.2.2.1⟩]
noncomputable def fes91 (c89:Int→Option R89) (c92:(List TQ)→Option R92) (c142:TQ→TQ→Option R142) (c148:TQ→TQ→Option R148) (c152:TQ→Option R152):List FE:=[(fe89 c89),(fe92 c92),(fe142 c142),(fe148 c148),(fe152 c152)]
section
variable (gl0:(List TQ)→(List TQ)→Int→Int→(List TQ)→Option R91) (gl1:(List TQ)→(List TQ)→Int→Int→(List TQ)→Option R91) (gl2:(List TQ)→Int→(List TQ)→Int→Int→(List TQ)→Int→Int→(List TQ)→TQ→Option R91) (c89:Int→Option R89) (c92:(List TQ)→Option R92) (c142:TQ→TQ→Option R142) (c148:TQ→TQ→Option R148) (c152:TQ→Option R152)
noncomputable def B91l0 (x0:(List TQ)) (x1:(List TQ)) (x27:Int) (x28:Int) (x5:(List TQ)):Option R91:=if x28<x27 then((c89 0).bind fun r1=>(if 0≤x28 then(if x28<(x5.length:Int)then(gl0 x0 x1 x27 (wrap64 (x28+1)) (x5.set (x28:Int).toNat (r1.1,r1.2)))else(none))else(none)))else(gl1 x1 x0 (x0.length:Int) 0 x5)
theorem e91l0 (s0:SbT ask91.bl) (s:k91l0.T):evPos E0 (orcOf (fes91 c89 c92 c142 c148 c152)) 71 an91 (loOf (les91 gl0 gl1 gl2)) (rk91 s0) (p91.getD 0 ⟨0,[], .skip⟩) (k91l0.mk' s)=B91l0 gl0 gl1 c89 s.1.1 s.1.2.1 s.1.2.2.1 s.1.2.2.2.1 s.2.1:=by kernel_rfl
noncomputable def B91l1 (x1:(List TQ)) (x36:(List TQ)) (x37:Int) (x38:Int) (x5:(List TQ)):Option R91:=if x38<x37 then(if 0≤x38 then(if x38<(x36.length:Int)then((c152 (rdOf ((false,(⟨#[]⟩:ByteArray)),(⟨#[]⟩:ByteArray)) x36 x38)).bind fun r1=>(cnd (r1) (gl1 x1 x36 x37 (wrap64 (x38+1)) x5) (gl2 x1 x38 x36 x37 x38 x1 (x1.length:Int) 0 x5 (rdOf ((false,(⟨#[]⟩:ByteArray)),(⟨#[]⟩:ByteArray)) x36 x38))))else(none))else(none))else((c92 x5).bind fun r2=>(some r2))
theorem e91l1 (s0:SbT ask91.bl) (s:k91l1.T):evPos E0 (orcOf (fes91 c89 c92 c142 c148 c152)) 71 an91 (loOf (les91 gl0 gl1 gl2)) (rk91 s0) (p91.getD 1 ⟨0,[], .skip⟩) (k91l1.mk' s)=B91l1 gl1 gl2 c92 c152 s.1.1 s.1.2.1 s.1.2.2.1 s.1.2.2.2.1 s.2.1:=by kernel_rfl
noncomputable def B91l2 (x1:(List TQ)) (x7:Int) (x36:(List TQ)) (x37:Int) (x38:Int) (x45:(List TQ)) (x46:Int) (x47:Int) (x5:(List TQ)) (x8:TQ):Option R91:=if x47<x46 then(if 0≤x47 then(if x47<(x45.length:Int)then(if 0≤wrap64 (x7+x47)then(if wrap64 (x7+x47)<(x5.length:Int)then((c142 x8 (rdOf ((false,(⟨#[]⟩:ByteArray)),(⟨#[]⟩:ByteArray)) x45 x47)).bind fun r1=>((c148 (rdOf ((false,(⟨#[]⟩:ByteArray)),(⟨#[]⟩:ByteArray)) x5 (wrap64 (x7+x47))) (r1.1,r1.2)).bind fun r2=>(if 0≤wrap64 (x7+x47)then(if wrap64 (x7+x47)<(x5.length:Int)then(gl2 x1 x7 x36 x37 x38 x45 x46 (wrap64 (x47+1)) (x5.set (wrap64 (x7+x47):Int).toNat (r2.1,r2.2)) x8)else(none))else(none))))else(none))else(none))else(none))else(none))else(gl1 x1 x36 x37 (wrap64 (x38+1)) x5)
theorem e91l2 (s0:SbT ask91.bl) (s:k91l2.T):evPos E0 (orcOf (fes91 c89 c92 c142 c148 c152)) 71 an91 (loOf (les91 gl0 gl1 gl2)) (rk91 s0) (p91.getD 2 ⟨0,[], .skip⟩) (k91l2.mk' s)=B91l2 gl1 gl2 c142 c148 s.1.1 s.1.2.1 s.1.2.2.1 s.1.2.2.2.1 s.1.2.2.2.2.1 s.1.2.2.2.2.2.1 s.1.2.2.2.2.2.2.1 s.1.2.2.2.2.2.2.2.1 s.2.1 s.2.2.1:=by kernel_rfl
noncomputable def B91 (x0:(List TQ)) (x1:(List TQ)):Option R91:=if(x0.length:Int)=0 then(some ([]:List TQ))else(if(x1.length:Int)=0 then(some ([]:List TQ))else(if 0≤wrap64 ((wrap64 ((x0.length:Int)+(x1.length:Int)))-1)then(if wrap64 ((wrap64 ((x0.length:Int)+(x1.length:Int)))-1)≤wrap64 ((wrap64 ((x0.length:Int)+(x1.length:Int)))-1)then(if(wrap64 ((wrap64 ((x0.length:Int)+(x1.length:Int)))-1):Int).toNat≤7036874417766 then(gl0 x0 x1 ((List.replicate (wrap64 ((wrap64 ((x0.length:Int)+(x1.length:Int)))-1):Int).toNat ((false,(⟨#[]⟩:ByteArray)),(⟨#[]⟩:ByteArray))).length:Int) 0 (List.replicate (wrap64 ((wrap64 ((x0.length:Int)+(x1.length:Int)))-1):Int).toNat ((false,(⟨#[]⟩:ByteArray)),(⟨#[]⟩:ByteArray))))else(none))else(none))else(none)))
theorem e91 (s:ask91.T):evFn E0 (orcOf (fes91 c89 c92 c142 c148 c152)) an91 (loOf (les91 gl0 gl1 gl2)) 71 cd91 Tryz.f91.results.toList rm91 (ask91.mk' s) (decW rsk91 dec91)=B91 gl0 s.1.1 s.1.2.1:=by kernel_rfl
end
noncomputable def an165:Ann:=⟨[],[],[]⟩
noncomputable def cd165:Code:=(Tryz.f165.body).getD .skip
noncomputable def rm165:List RM:=[.d (.li (.ag (.pr (.ag (.pr .bo .st)) .st)))]
noncomputable def les165:List (LoE R165):=[]
noncomputable def fes165 (c144:(List TQ)→(List TQ)→Option R144):List FE:=[(fe144 c144)]
section
variable (c144:(List TQ)→(List TQ)→Option R144)
noncomputable def B165 (x0:(List TQ)) (x1:(List TQ)):Option R165:=(c144 x1 x0).bind fun r1=>(some r1.2)
theorem e165 (s:ask165.T):evFn E0 (orcOf (fes165 c144)) an165 (loOf (les165)) 14 cd165 Tryz.f165.results.toList rm165 (ask165.mk' s) (decW rsk165 dec165)=B165 c144 s.1.1 s.1.2.1:=by kernel_rfl
end
noncomputable def an146:Ann:=⟨[],[],[]⟩
noncomputable def cd146:Code:=(Tryz.f146.body).getD .skip
noncomputable def rm146:List RM:=[.d (.li (.ag (.pr (.ag (.pr .bo .st)) .st)))]
noncomputable def les146:List (LoE R146):=[]
noncomputable def fes146 (c91:(List TQ)→(List TQ)→Option R91) (c165:(List TQ)→(List TQ)→Option R165):List FE:=[(fe91 c91),(fe165 c165)]
section
variable (c91:(List TQ)→(List TQ)→Option R91) (c165:(List TQ)→(List TQ)→Option R165)
noncomputable def B146 (x0:(List TQ)) (x1:(List TQ)) (x2:(List TQ)):Option R146:=(c91 x1 x2).bind fun r1=>((c165 x0 r1).bind fun r2=>(some r2))
theorem e146 (s:ask146.T):evFn E0 (orcOf (fes146 c91 c165)) an146 (loOf (les146)) 12 cd146 Tryz.f146.results.toList rm146 (ask146.mk' s) (decW rsk146 dec146)=B146 c91 c165 s.1.1 s.1.2.1 s.1.2.2.1:=by kernel_rfl
end
noncomputable def an85:Ann:=⟨[(3,[(1, .any),(2, .any),(3, .any),(7, .val (.li (.ag (.pr (.ag (.pr .bo .st)) .st)))),(8, .any)])],[],[]⟩
noncomputable def cd85:Code:=(Tryz.f85.body).getD .skip
noncomputable def p85:List Pos:=posns an85 [] cd85
noncomputable def rm85:List RM:=[.d (.li (.ag (.pr (.ag (.pr .bo .st)) .st)))]
noncomputable def rk85 (s0:SbT ask85.bl):KX R85:=retK E0 Tryz.f85.results.toList rm85 (mkB ask85.bl s0) (decW rsk85 dec85)
noncomputable def k85l0:Sk:=⟨[(1, .d (.li (.li (.ag (.pr (.ag (.pr .bo .st)) .st))))),(2, .d (.li (.ag (.pr (.ag (.pr .bo .st)) .st)))),(3, .f (.a (.ptr 3 0 []))),(7, .d (.li (.ag (.pr (.ag (.pr .bo .st)) .st)))),(8, .d (.it .i64))],[(3, .cell (.ag (.li (.ag (.pr (.ag (.pr .bo .st)) .st)))) true)]⟩
noncomputable def les85 (gl0:(List (List TQ))→(List TQ)→(List TQ)→Int→(List TQ)→Option R85):List (LoE R85):=[⟨3,k85l0,fun s=>gl0 s.1.1 s.1.2.1 s.1.2.2.1 s.1.2.2.2.1 s.2.1⟩]
noncomputable def fes85 (c90:(List TQ)→(List TQ)→Option R90) (c146:(List TQ)→(List TQ)→(List TQ)→Option R146):List FE:=[(fe90 c90),(fe146 c146)]
section
variable (gl0:(List (List TQ))→(List TQ)→(List TQ)→Int→(List TQ)→Option R85) (c90:(List TQ)→(List TQ)→Option R90) (c146:(List TQ)→(List TQ)→(List TQ)→Option R146)
noncomputable def B85l0 (x1:(List (List TQ))) (x2:(List TQ)) (x7:(List TQ)) (x8:Int) (x3:(List TQ)):Option R85:=if x8≥0 then((c146 x3 x7 x2).bind fun r1=>(if 0≤x8 then(if x8<(x1.length:Int)then((c90 r1 (rdOf ([]:List TQ) x1 x8)).bind fun r2=>(gl0 x1 x2 r2 (wrap64 (x8-1)) x3))else(none))else(none)))else(some x7)
theorem e85l0 (s0:SbT ask85.bl) (s:k85l0.T):evPos E0 (orcOf (fes85 c90 c146)) 27 an85 (loOf (les85 gl0)) (rk85 s0) (p85.getD 0 ⟨0,[], .skip⟩) (k85l0.mk' s)=B85l0 gl0 c90 c146 s.1.1 s.1.2.1 s.1.2.2.1 s.1.2.2.2.1 s.2.1:=by kernel_rfl
noncomputable def B85 (x0:(List TQ)) (x1:(List (List TQ))) (x2:(List TQ)):Option R85:=gl0 x1 x2 ([]:List TQ) (wrap64 ((x1.length:Int)-1)) x0
theorem e85 (s:ask85.T):evFn E0 (orcOf (fes85 c90 c146)) an85 (loOf (les85 gl0)) 27 cd85 Tryz.f85.results.toList rm85 (ask85.mk' s) (decW rsk85 dec85)=B85 gl0 s.1.1 s.1.2.1 s.1.2.2.1:=by kernel_rfl
end
noncomputable def an86:Ann:=⟨[(3,[(3, .any),(9, .any),(10, .any),(11, .any)])],[],[]⟩
noncomputable def cd86:Code:=(Tryz.f86.body).getD .skip
noncomputable def p86:List Pos:=posns an86 [] cd86
noncomputable def rm86:List RM:=[.d (.li (.ag (.pr (.ag (.pr .bo .st)) .st)))]
noncomputable def rk86 (s0:SbT ask86.bl):KX R86:=retK E0 Tryz.f86.results.toList rm86 (mkB ask86.bl s0) (decW rsk86 dec86)
noncomputable def k86l0:Sk:=⟨[(3, .f (.a (.ref 3))),(9, .d (.li (.it .i64))),(10, .d (.it .i64)),(11, .d (.it .i64))],[(3, .own (.ag (.pr (.ag (.pr .bo .st)) .st)) true)]⟩
noncomputable def les86 (gl0:(List Int)→Int→Int→(List TQ)→Option R86):List (LoE R86):=[⟨3,k86l0,fun s=>gl0 s.1.1 s.1.2.1 s.1.2.2.1 s.2.1⟩]
noncomputable def fes86 (c89:Int→Option R89) (c92:(List TQ)→Option R92):List FE:=[(fe89 c89),(fe92 c92)]
section
variable (gl0:(List Int)→Int→Int→(List TQ)→Option R86) (c89:Int→Option R89) (c92:(List TQ)→Option R92)
noncomputable def B86l0 (x9:(List Int)) (x10:Int) (x11:Int) (x3:(List TQ)):Option R86:=if x11<x10 then(if 0≤x11 then(if x11<(x9.length:Int)then((c89 (rd x9 x11)).bind fun r1=>(if 0≤x11 then(if x11<(x3.length:Int)then(gl0 x9 x10 (wrap64 (x11+1)) (x3.set (x11:Int).toNat (r1.1,r1.2)))else(none))else(none)))else(none))else(none))else((c92 x3).bind fun r2=>(some r2))
theorem e86l0 (s0:SbT ask86.bl) (s:k86l0.T):evPos E0 (orcOf (fes86 c89 c92)) 24 an86 (loOf (les86 gl0)) (rk86 s0) (p86.getD 0 ⟨0,[], .skip⟩) (k86l0.mk' s)=B86l0 gl0 c89 c92 s.1.1 s.1.2.1 s.1.2.2.1 s.2.1:=by kernel_rfl
noncomputable def B86 (x0:(List Int)):Option R86:=if 0≤(x0.length:Int)then(if(x0.length:Int)≤(x0.length:Int)then(if((x0.length:Int):Int).toNat≤7036874417766 then(gl0 x0 (x0.length:Int) 0 (List.replicate ((x0.length:Int):Int).toNat ((false,(⟨#[]⟩:ByteArray)),(⟨#[]⟩:ByteArray))))else(none))else(none))else(none)
theorem e86 (s:ask86.T):evFn E0 (orcOf (fes86 c89 c92)) an86 (loOf (les86 gl0)) 24 cd86 Tryz.f86.results.toList rm86 (ask86.mk' s) (decW rsk86 dec86)=B86 gl0 s.1.1:=by kernel_rfl
end
noncomputable def an87:Ann:=⟨[],[],[]⟩
noncomputable def cd87:Code:=(Tryz.f87.body).getD .skip
noncomputable def rm87:List RM:=[.d (.ag (.pr (.ag (.pr .bo .st)) .st))]
noncomputable def les87:List (LoE R87):=[]
noncomputable def fes87 (c142:TQ→TQ→Option R142) (c147:TQ→Option R147):List FE:=[(fe142 c142),(fe147 c147)]
section
variable (c142:TQ→TQ→Option R142) (c147:TQ→Option R147)
noncomputable def B87 (x0:TQ) (x1:TQ):Option R87:=(c147 x1).bind fun r1=>((c142 x0 (r1.1,r1.2)).bind fun r2=>(some (r2.1,r2.2)))
theorem e87 (s:ask87.T):evFn E0 (orcOf (fes87 c142 c147)) an87 (loOf (les87)) 9 cd87 Tryz.f87.results.toList rm87 (ask87.mk' s) (decW rsk87 dec87)=B87 c142 c147 s.1.1 s.1.2.1:=by kernel_rfl
end
noncomputable def an154:Ann:=⟨[],[],[]⟩
noncomputable def cd154:Code:=(Tryz.f154.body).getD .skip
noncomputable def rm154:List RM:=[.d .bo]
noncomputable def les154:List (LoE R154):=[]
noncomputable def fes154:List FE:=[]
noncomputable def B154 (x0:TQ):Option R154:=if(x0.1.2.size:Int)>1024 then(some true)else(some (decide ((x0.2.size:Int)>1024)))
theorem e154 (s:ask154.T):evFn E0 (orcOf (fes154)) an154 (loOf (les154)) 14 cd154 Tryz.f154.results.toList rm154 (ask154.mk' s) (decW rsk154 dec154)=B154 s.1.1:=by kernel_rfl
noncomputable def an194Large:Ann:=⟨[(2,[(0, .any),(1, .any),(7, .any),(8, .any)])],[],[]⟩
noncomputable def cd194Large:Code:=(Tryz.f194.body).getD .skip
noncomputable def p194Large:List Pos:=posns an194Large [] cd194Large
noncomputable def rm194Large:List RM:=[.d (.it .i64)]
noncomputable def rk194Large (s0:SbT ask194Large.bl):KX R194Large:=retK E0 Tryz.f194.results.toList rm194Large (mkB ask194Large.bl s0) (decW rsk194Large dec194Large)
noncomputable def k194Largel0:Sk:=⟨[(0, .d (.li (.ag (.pr (.ag (.pr .bo .st)) .st)))),(1, .f (.cl 154 [])),(7, .d (.it .i64)),(8, .d (.it .i64))],[]⟩
noncomputable def les194Large (gl0:(List TQ)→Int→Int→Option R194Large):List (LoE R194Large):=[⟨2,k194Largel0,fun s=>gl0 s.1.1 s.1.2.1 s.1.2.2.1⟩]
noncomputable def fes194Large (c154:TQ→Option R154):List FE:=[(fe154 c154)]
section
variable (gl0:(List TQ)→Int→Int→Option R194Large) (c154:TQ→Option R154)
noncomputable def B194Largel0 (x0:(List TQ)) (x7:Int) (x8:Int):Option R194Large:=if x8<x7 then(if 0≤x8 then(if x8<(x0.length:Int)then((c154 (rdOf ((false,(⟨#[]⟩:ByteArray)),(⟨#[]⟩:ByteArray)) x0 x8)).bind fun r1=>(cnd (r1) (some x8) (gl0 x0 x7 (wrap64 (x8+1)))))else(none))else(none))else(some (-1))
theorem e194Largel0 (s0:SbT ask194Large.bl) (s:k194Largel0.T):evPos E0 (orcOf (fes194Large c154)) 19 an194Large (loOf (les194Large gl0)) (rk194Large s0) (p194Large.getD 0 ⟨0,[], .skip⟩) (k194Largel0.mk' s)=B194Largel0 gl0 c154 s.1.1 s.1.2.1 s.1.2.2.1:=by kernel_rfl
noncomputable def B194Large (x0:(List TQ)):Option R194Large:=gl0 x0 (x0.length:Int) 0
theorem e194Large (s:ask194Large.T):evFn E0 (orcOf (fes194Large c154)) an194Large (loOf (les194Large gl0)) 19 cd194Large Tryz.f194.results.toList rm194Large (ask194Large.mk' s) (decW rsk194Large dec194Large)=B194Large gl0 s.1.1:=by kernel_rfl
end
noncomputable def an153Large:Ann:=⟨[],[],[]⟩
noncomputable def cd153Large:Code:=(Tryz.f153.body).getD .skip
noncomputable def rm153Large:List RM:=[.d .bo]
noncomputable def les153Large:List (LoE R153Large):=[]
noncomputable def fes153Large (c194Large:(List TQ)→Option R194Large):List FE:=[(fe194Large c194Large)]
section
variable (c194Large:(List TQ)→Option R194Large)
noncomputable def B153Large (x0:(List TQ)):Option R153Large:=(c194Large x0).bind fun r1=>(some (decide (r1≥0)))
theorem e153Large (s:ask153Large.T):evFn E0 (orcOf (fes153Large c194Large)) an153Large (loOf (les153Large)) 9 cd153Large Tryz.f153.results.toList rm153Large (ask153Large.mk' s) (decW rsk153Large dec153Large)=B153Large c194Large s.1.1:=by kernel_rfl
end
noncomputable def an93:Ann:=⟨[],[],[]⟩
noncomputable def cd93:Code:=(Tryz.f93.body).getD .skip
noncomputable def rm93:List RM:=[.d .bo]
noncomputable def les93:List (LoE R93):=[]
noncomputable def fes93 (c153Large:(List TQ)→Option R153Large):List FE:=[(fe153Large c153Large)]
section
variable (c153Large:(List TQ)→Option R153Large)
noncomputable def B93 (x0:(List TQ)):Option R93:=if(x0.length:Int)>65 then(some true)else((c153Large x0).bind fun r1=>(some r1))
theorem e93 (s:ask93.T):evFn E0 (orcOf (fes93 c153Large)) an93 (loOf (les93)) 10 cd93 Tryz.f93.results.toList rm93 (ask93.mk' s) (decW rsk93 dec93)=B93 c153Large s.1.1:=by kernel_rfl
end
noncomputable def an17:Ann:=⟨[(11,[(1, .any),(2, .any),(7, .any),(8, .any),(38, .any),(39, .any)]),(16,[(7, .any),(8, .any),(10, .any)]),(19,[(7, .any),(8, .any),(10, .any),(11, .any)]),(24,[(8, .any),(12, .val (.li (.ag (.pr (.ag (.pr .bo .st)) .st)))),(13, .any)])],[],[]⟩
noncomputable def cd17:Code:=(Tryz.f17.body).getD .skip
noncomputable def p17:List Pos:=posns an17 [] cd17
noncomputable def rm17:List RM:=[.d (.li (.ag (.pr (.ag (.pr .bo .st)) .st))), .d (.it .i64)]
noncomputable def rk17 (s0:SbT ask17.bl):KX R17:=retK E0 Tryz.f17.results.toList rm17 (mkB ask17.bl s0) (decW rsk17 dec17)
noncomputable def k17l0:Sk:=⟨[(1, .d (.li (.li (.ag (.pr (.ag (.pr .bo .st)) .st))))),(2, .f (.a (.ptr 2 0 []))),(7, .d (.it .i64)),(8, .f (.a (.ref 8))),(38, .d (.it .i64)),(39, .d (.it .i64))],[(2, .cell (.ag (.li (.ag (.pr (.ag (.pr .bo .st)) .st)))) true),(8, .own (.ag (.pr (.ag (.pr .bo .st)) .st)) true)]⟩
noncomputable def k17l1:Sk:=⟨[(7, .d (.it .i64)),(8, .f (.a (.ref 8))),(10, .d (.it .i64))],[(8, .own (.ag (.pr (.ag (.pr .bo .st)) .st)) true)]⟩
noncomputable def k17l2:Sk:=⟨[(7, .d (.it .i64)),(8, .f (.a (.ref 8))),(10, .d (.it .i64)),(11, .d (.it .i64))],[(8, .own (.ag (.pr (.ag (.pr .bo .st)) .st)) true)]⟩
noncomputable def k17l3:Sk:=⟨[(8, .f (.a (.ref 8))),(12, .d (.li (.ag (.pr (.ag (.pr .bo .st)) .st)))),(13, .d (.it .i64))],[(8, .own (.ag (.pr (.ag (.pr .bo .st)) .st)) true)]⟩
noncomputable def les17 (gl0:(List (List TQ))→Int→Int→Int→(List TQ)→(List TQ)→Option R17) (gl1:Int→Int→(List TQ)→Option R17) (gl2:Int→Int→Int→(List TQ)→Option R17) (gl3:(List TQ)→Int→(List TQ)→Option R17):List (LoE R17):=[⟨11,k17l0,fun s=>gl0 s.1.1 s.1.2.1 s.1.2.2.1 s.1.2.2.2.1 s.2.1 s.2.2.1⟩,⟨16,k17l1,fun s=>gl1 s.1.1 s.1.2.1 s.2.1⟩,⟨19,k17l2,fun s=>gl2 s.1.1 s.1.2.1 s.1.2.2.1 s.2.1⟩,⟨24,k17l3,fun s=>gl3 s.1.1 s.1.2.1 s.2.1⟩]
noncomputable def fes17 (c83:(List TQ)→(List (List (List TQ)))→Option R83) (c84:(List TQ)→(List TQ)→Option R84) (c85:(List TQ)→(List (List TQ))→(List TQ)→Option R85) (c86:(List Int)→Option R86) (c87:TQ→TQ→Option R87) (c88:TQ→TQ→Option R88) (c89:Int→Option R89) (c90:(List TQ)→(List TQ)→Option R90) (c91:(List TQ)→(List TQ)→Option R91) (c92:(List TQ)→Option R92) (c93:(List TQ)→Option R93):List FE:=[(fe83 c83),(fe84 c84),(fe85 c85),(fe86 c86),(fe87 c87),(fe88 c88),(fe89 c89),(fe90 c90),(fe91 c91),(fe92 c92),(fe93 c93)]
section
variable (gl0:(List (List TQ))→Int→Int→Int→(List TQ)→(List TQ)→Option R17) (gl1:Int→Int→(List TQ)→Option R17) (gl2:Int→Int→Int→(List TQ)→Option R17) (gl3:(List TQ)→Int→(List TQ)→Option R17) (c83:(List TQ)→(List (List (List TQ)))→Option R83) (c84:(List TQ)→(List TQ)→Option R84) (c85:(List TQ)→(List (List TQ))→(List TQ)→Option R85) (c86:(List Int)→Option R86) (c87:TQ→TQ→Option R87) (c88:TQ→TQ→Option R88) (c89:Int→Option R89) (c90:(List TQ)→(List TQ)→Option R90) (c91:(List TQ)→(List TQ)→Option R91) (c92:(List TQ)→Option R92) (c93:(List TQ)→Option R93)
noncomputable def B17l0 (x1:(List (List TQ))) (x7:Int) (x38:Int) (x39:Int) (x2:(List TQ)) (x8:(List TQ)):Option R17:=if x39<x38 then((c86 ([x39]:List Int)).bind fun r1=>((c85 x2 x1 r1).bind fun r2=>((c84 x2 r2).bind fun r3=>(if 0≤x39 then(if x39<(x8.length:Int)then(gl0 x1 x7 x38 (wrap64 (x39+1)) x2 (x8.set (x39:Int).toNat (r3.1,r3.2)))else(none))else(none)))))else(gl1 x7 1 x8)
theorem e17l0 (s0:SbT ask17.bl) (s:k17l0.T):evPos E0 (orcOf (fes17 c83 c84 c85 c86 c87 c88 c89 c90 c91 c92 c93)) 103 an17 (loOf (les17 gl0 gl1 gl2 gl3)) (rk17 s0) (p17.getD 0 ⟨0,[], .skip⟩) (k17l0.mk' s)=B17l0 gl0 gl1 c84 c85 c86 s.1.1 s.1.2.1 s.1.2.2.1 s.1.2.2.2.1 s.2.1 s.2.2.1:=by kernel_rfl
noncomputable def B17l1 (x7:Int) (x10:Int) (x8:(List TQ)):Option R17:=if x10≤x7 then(gl2 x7 x10 x7 x8)else(gl3 ([]:List TQ) x7 x8)
theorem e17l1 (s0:SbT ask17.bl) (s:k17l1.T):evPos E0 (orcOf (fes17 c83 c84 c85 c86 c87 c88 c89 c90 c91 c92 c93)) 103 an17 (loOf (les17 gl0 gl1 gl2 gl3)) (rk17 s0) (p17.getD 1 ⟨0,[], .skip⟩) (k17l1.mk' s)=B17l1 gl2 gl3 s.1.1 s.1.2.1 s.2.1:=by kernel_rfl
noncomputable def B17l2 (x7:Int) (x10:Int) (x11:Int) (x8:(List TQ)):Option R17:=if x11≥x10 then(if 0≤x11 then(if x11<(x8.length:Int)then(if 0≤wrap64 (x11-1)then(if wrap64 (x11-1)<(x8.length:Int)then((c88 (rdOf ((false,(⟨#[]⟩:ByteArray)),(⟨#[]⟩:ByteArray)) x8 x11) (rdOf ((false,(⟨#[]⟩:ByteArray)),(⟨#[]⟩:ByteArray)) x8 (wrap64 (x11-1)))).bind fun r1=>((c89 x10).bind fun r2=>((c87 (r1.1,r1.2) (r2.1,r2.2)).bind fun r3=>(if 0≤x11 then(if x11<(x8.length:Int)then(gl2 x7 x10 (wrap64 (x11-1)) (x8.set (x11:Int).toNat (r3.1,r3.2)))else(none))else(none)))))else(none))else(none))else(none))else(none))else(gl1 x7 (wrap64 (x10+1)) x8)
theorem e17l2 (s0:SbT ask17.bl) (s:k17l2.T):evPos E0 (orcOf (fes17 c83 c84 c85 c86 c87 c88 c89 c90 c91 c92 c93)) 103 an17 (loOf (les17 gl0 gl1 gl2 gl3)) (rk17 s0) (p17.getD 2 ⟨0,[], .skip⟩) (k17l2.mk' s)=B17l2 gl1 gl2 c87 c88 c89 s.1.1 s.1.2.1 s.1.2.2.1 s.2.1:=by kernel_rfl
noncomputable def B17l3 (x12:(List TQ)) (x13:Int) (x8:(List TQ)):Option R17:=if x13≥0 then((c86 ([wrap64 (0-x13),1]:List Int)).bind fun r1=>((c91 x12 r1).bind fun r2=>(if 0≤x13 then(if x13<(x8.length:Int)then((c92 ([rdOf ((false,(⟨#[]⟩:ByteArray)),(⟨#[]⟩:ByteArray)) x8 x13]:List TQ)).bind fun r3=>((c90 r2 r3).bind fun r4=>(gl3 r4 (wrap64 (x13-1)) x8)))else(none))else(none))))else((c93 x12).bind fun r5=>(cnd (r5) (some (([]:List TQ),4)) (some (x12,0))))
theorem e17l3 (s0:SbT ask17.bl) (s:k17l3.T):evPos E0 (orcOf (fes17 c83 c84 c85 c86 c87 c88 c89 c90 c91 c92 c93)) 103 an17 (loOf (les17 gl0 gl1 gl2 gl3)) (rk17 s0) (p17.getD 3 ⟨0,[], .skip⟩) (k17l3.mk' s)=B17l3 gl3 c86 c90 c91 c92 c93 s.1.1 s.1.2.1 s.2.1:=by kernel_rfl
noncomputable def B17 (x0:(List TQ)) (x1:(List (List TQ))):Option R17:=(c83 x0 ([x1]:List (List (List TQ)))).bind fun r1=>(if r1≠0 then(some (([]:List TQ),r1))else(if(x1.length:Int)=0 then(some (([]:List TQ),0))else(if wrap64 ((wrap64 ((x0.length:Int)-1))*(wrap64 ((x1.length:Int)-1)))>64 then(some (([]:List TQ),4))else(if 0≤wrap64 ((wrap64 ((wrap64 ((x0.length:Int)-1))*(wrap64 ((x1.length:Int)-1))))+1)then(if wrap64 ((wrap64 ((wrap64 ((x0.length:Int)-1))*(wrap64 ((x1.length:Int)-1))))+1)≤wrap64 ((wrap64 ((wrap64 ((x0.length:Int)-1))*(wrap64 ((x1.length:Int)-1))))+1)then(if(wrap64 ((wrap64 ((wrap64 ((x0.length:Int)-1))*(wrap64 ((x1.length:Int)-1))))+1):Int).toNat≤7036874417766 then(gl0 x1 (wrap64 ((wrap64 ((x0.length:Int)-1))*(wrap64 ((x1.length:Int)-1)))) ((List.replicate (wrap64 ((wrap64 ((wrap64 ((x0.length:Int)-1))*(wrap64 ((x1.length:Int)-1))))+1):Int).toNat ((false,(⟨#[]⟩:ByteArray)),(⟨#[]⟩:ByteArray))).length:Int) 0 x0 (List.replicate (wrap64 ((wrap64 ((wrap64 ((x0.length:Int)-1))*(wrap64 ((x1.length:Int)-1))))+1):Int).toNat ((false,(⟨#[]⟩:ByteArray)),(⟨#[]⟩:ByteArray))))else(none))else(none))else(none)))))
theorem e17 (s:ask17.T):evFn E0 (orcOf (fes17 c83 c84 c85 c86 c87 c88 c89 c90 c91 c92 c93)) an17 (loOf (les17 gl0 gl1 gl2 gl3)) 103 cd17 Tryz.f17.results.toList rm17 (ask17.mk' s) (decW rsk17 dec17)=B17 gl0 c83 s.1.1 s.1.2.1:=by kernel_rfl
end
noncomputable def an18:Ann:=⟨[(4,[(0, .any),(1, .any),(12, .any),(13, .any)])],[],[]⟩
noncomputable def cd18:Code:=(Tryz.f18.body).getD .skip
noncomputable def p18:List Pos:=posns an18 [] cd18
noncomputable def rm18:List RM:=[.d .bo]
noncomputable def rk18 (s0:SbT ask18.bl):KX R18:=retK E0 Tryz.f18.results.toList rm18 (mkB ask18.bl s0) (decW rsk18 dec18)
noncomputable def k18l0:Sk:=⟨[(0, .d (.li (.ag (.pr (.ag (.pr .bo .st)) .st)))),(1, .d (.li (.ag (.pr (.ag (.pr .bo .st)) .st)))),(12, .d (.it .i64)),(13, .d (.it .i64))],[]⟩
noncomputable def les18 (gl0:(List TQ)→(List TQ)→Int→Int→Option R18):List (LoE R18):=[⟨4,k18l0,fun s=>gl0 s.1.1 s.1.2.1 s.1.2.2.1 s.1.2.2.2.1⟩]
noncomputable def fes18:List FE:=[]
section
variable (gl0:(List TQ)→(List TQ)→Int→Int→Option R18)
noncomputable def B18l0 (x0:(List TQ)) (x1:(List TQ)) (x12:Int) (x13:Int):Option R18:=if x13<x12 then(if 0≤x13 then(if x13<(x0.length:Int)then(if 0≤x13 then(if x13<(x1.length:Int)then(cnd ((!((((((rdOf ((false,(⟨#[]⟩:ByteArray)),(⟨#[]⟩:ByteArray)) x0 x13).1).1)==(((rdOf ((false,(⟨#[]⟩:ByteArray)),(⟨#[]⟩:ByteArray)) x1 x13).1).1))&&(eqS (((rdOf ((false,(⟨#[]⟩:ByteArray)),(⟨#[]⟩:ByteArray)) x0 x13).1).2) (((rdOf ((false,(⟨#[]⟩:ByteArray)),(⟨#[]⟩:ByteArray)) x1 x13).1).2)))&&(eqS ((rdOf ((false,(⟨#[]⟩:ByteArray)),(⟨#[]⟩:ByteArray)) x0 x13).2) ((rdOf ((false,(⟨#[]⟩:ByteArray)),(⟨#[]⟩:ByteArray)) x1 x13).2))))) (some false) (gl0 x0 x1 x12 (wrap64 (x13+1))))else(none))else(none))else(none))else(none))else(some true)
theorem e18l0 (s0:SbT ask18.bl) (s:k18l0.T):evPos E0 (orcOf (fes18)) 26 an18 (loOf (les18 gl0)) (rk18 s0) (p18.getD 0 ⟨0,[], .skip⟩) (k18l0.mk' s)=B18l0 gl0 s.1.1 s.1.2.1 s.1.2.2.1 s.1.2.2.2.1:=by kernel_rfl
noncomputable def B18 (x0:(List TQ)) (x1:(List TQ)):Option R18:=if(x0.length:Int)≠(x1.length:Int)then(some false)else(gl0 x0 x1 (x0.length:Int) 0)
theorem e18 (s:ask18.T):evFn E0 (orcOf (fes18)) an18 (loOf (les18 gl0)) 26 cd18 Tryz.f18.results.toList rm18 (ask18.mk' s) (decW rsk18 dec18)=B18 gl0 s.1.1 s.1.2.1:=by kernel_rfl
end
noncomputable def an173:Ann:=⟨[],[],[]⟩
noncomputable def cd173:Code:=(Tryz.f173.body).getD .skip
noncomputable def rm173:List RM:=[.d (.it .i64)]
noncomputable def les173:List (LoE R173):=[]
noncomputable def fes173:List FE:=[]
noncomputable def B173 (x0:TI):Option R173:=cnd (x0.1) (some (-1)) (cnd ((eqS x0.2 (⟨#[]⟩:ByteArray))) (some 0) (some 1))
theorem e173 (s:ask173.T):evFn E0 (orcOf (fes173)) an173 (loOf (les173)) 10 cd173 Tryz.f173.results.toList rm173 (ask173.mk' s) (decW rsk173 dec173)=B173 s.1.1:=by kernel_rfl
noncomputable def an123:Ann:=⟨[],[],[]⟩
noncomputable def cd123:Code:=(Tryz.f123.body).getD .skip
noncomputable def rm123:List RM:=[.d (.it .i64)]
noncomputable def les123:List (LoE R123):=[]
noncomputable def fes123 (c173:TI→Option R173):List FE:=[(fe173 c173)]
section
variable (c173:TI→Option R173)
noncomputable def B123 (x0:TQ):Option R123:=(c173 x0.1).bind fun r1=>(some r1)
theorem e123 (s:ask123.T):evFn E0 (orcOf (fes123 c173)) an123 (loOf (les123)) 6 cd123 Tryz.f123.results.toList rm123 (ask123.mk' s) (decW rsk123 dec123)=B123 c173 s.1.1:=by kernel_rfl
end
noncomputable def an48:Ann:=⟨[(2,[(0, .any),(3, .any)])],[],[]⟩
noncomputable def cd48:Code:=(Tryz.f48.body).getD .skip
noncomputable def p48:List Pos:=posns an48 [] cd48
noncomputable def rm48:List RM:=[.d (.li (.ag (.pr (.ag (.pr .bo .st)) .st)))]
noncomputable def rk48 (s0:SbT ask48.bl):KX R48:=retK E0 Tryz.f48.results.toList rm48 (mkB ask48.bl s0) (decW rsk48 dec48)
noncomputable def k48l0:Sk:=⟨[(0, .d (.li (.ag (.pr (.ag (.pr .bo .st)) .st)))),(3, .d (.it .i64))],[]⟩
noncomputable def les48 (gl0:(List TQ)→Int→Option R48):List (LoE R48):=[⟨2,k48l0,fun s=>gl0 s.1.1 s.1.2.1⟩]
noncomputable def fes48 (c123:TQ→Option R123):List FE:=[(fe123 c123)]
section
variable (gl0:(List TQ)→Int→Option R48) (c123:TQ→Option R123)
noncomputable def B48l0 (x0:(List TQ)) (x3:Int):Option R48:=if x3>0 then(if 0≤wrap64 (x3-1)then(if wrap64 (x3-1)<(x0.length:Int)then((c123 (rdOf ((false,(⟨#[]⟩:ByteArray)),(⟨#[]⟩:ByteArray)) x0 (wrap64 (x3-1)))).bind fun r1=>(if r1=0 then(gl0 x0 (wrap64 (x3-1)))else(if(0:Int)≤0 then(if 0≤x3 then(if x3≤(x0.length:Int)then(if(x0.length:Int)≤(x0.length:Int)then(if(([]:List TQ).length+(slice_ x0 0 x3).length)*40≤140737488355328 then(some (([]:List TQ)++(slice_ x0 0 x3)))else(none))else(none))else(none))else(none))else(none))))else(none))else(none))else(if(0:Int)≤0 then(if 0≤x3 then(if x3≤(x0.length:Int)then(if(x0.length:Int)≤(x0.length:Int)then(if(([]:List TQ).length+(slice_ x0 0 x3).length)*40≤140737488355328 then(some (([]:List TQ)++(slice_ x0 0 x3)))else(none))else(none))else(none))else(none))else(none))
theorem e48l0 (s0:SbT ask48.bl) (s:k48l0.T):evPos E0 (orcOf (fes48 c123)) 24 an48 (loOf (les48 gl0)) (rk48 s0) (p48.getD 0 ⟨0,[], .skip⟩) (k48l0.mk' s)=B48l0 gl0 c123 s.1.1 s.1.2.1:=by kernel_rfl
noncomputable def B48 (x0:(List TQ)):Option R48:=gl0 x0 (x0.length:Int)
theorem e48 (s:ask48.T):evFn E0 (orcOf (fes48 c123)) an48 (loOf (les48 gl0)) 24 cd48 Tryz.f48.results.toList rm48 (ask48.mk' s) (decW rsk48 dec48)=B48 gl0 s.1.1:=by kernel_rfl
end
noncomputable def an221:Ann:=⟨[(3,[(0, .any),(3, .own (.it .u8)),(4, .any)]),(6,[(0, .any),(3, .own (.it .u8)),(4, .any),(5, .any)])],[],[]⟩
noncomputable def cd221:Code:=(Tryz.f221.body).getD .skip
noncomputable def p221:List Pos:=posns an221 [] cd221
noncomputable def rm221:List RM:=[.d .st]
noncomputable def rk221 (s0:SbT ask221.bl):KX R221:=retK E0 Tryz.f221.results.toList rm221 (mkB ask221.bl s0) (decW rsk221 dec221)
noncomputable def k221l0:Sk:=⟨[(0, .d (.li (.it .u64))),(3, .f (.a (.ref 3))),(4, .d (.it .i64))],[(3, .own (.it .u8) true)]⟩
noncomputable def k221l1:Sk:=⟨[(0, .d (.li (.it .u64))),(3, .f (.a (.ref 3))),(4, .d (.it .i64)),(5, .d (.it .i64))],[(3, .own (.it .u8) true)]⟩
noncomputable def les221 (gl0:(List Int)→Int→(List Int)→Option R221) (gl1:(List Int)→Int→Int→(List Int)→Option R221):List (LoE R221):=[⟨3,k221l0,fun s=>gl0 s.1.1 s.1.2.1 s.2.1⟩,⟨6,k221l1,fun s=>gl1 s.1.1 s.1.2.1 s.1.2.2.1 s.2.1⟩]
noncomputable def fes221:List FE:=[]
section
variable (gl0:(List Int)→Int→(List Int)→Option R221) (gl1:(List Int)→Int→Int→(List Int)→Option R221)
noncomputable def B221l0 (x0:(List Int)) (x4:Int) (x3:(List Int)):Option R221:=if x4≥0 then(gl1 x0 x4 24 x3)else(some (strOfNums x3))
theorem e221l0 (s0:SbT ask221.bl) (s:k221l0.T):evPos E0 (orcOf (fes221)) 38 an221 (loOf (les221 gl0 gl1)) (rk221 s0) (p221.getD 0 ⟨0,[], .skip⟩) (k221l0.mk' s)=B221l0 gl1 s.1.1 s.1.2.1 s.2.1:=by kernel_rfl
noncomputable def B221l1 (x0:(List Int)) (x4:Int) (x5:Int) (x3:(List Int)):Option R221:=if x5≥0 then(if 0≤x4 then(if x4<(x0.length:Int)then(if 0≤x5 then(if(x3.length:Int)>0 then(if(x3.length+1)*1≤140737488355328 then(gl1 x0 x4 (wrap64 (x5-8)) (x3++([IntKind.u8.wrap (shr .u64 (rd x0 x4) x5)]:List Int)))else(none))else(if IntKind.u8.wrap (shr .u64 (rd x0 x4) x5)>0 then(if(x3.length+1)*1≤140737488355328 then(gl1 x0 x4 (wrap64 (x5-8)) (x3++([IntKind.u8.wrap (shr .u64 (rd x0 x4) x5)]:List Int)))else(none))else(gl1 x0 x4 (wrap64 (x5-8)) x3)))else(none))else(none))else(none))else(gl0 x0 (wrap64 (x4-1)) x3)
theorem e221l1 (s0:SbT ask221.bl) (s:k221l1.T):evPos E0 (orcOf (fes221)) 38 an221 (loOf (les221 gl0 gl1)) (rk221 s0) (p221.getD 1 ⟨0,[], .skip⟩) (k221l1.mk' s)=B221l1 gl0 gl1 s.1.1 s.1.2.1 s.1.2.2.1 s.2.1:=by kernel_rfl
noncomputable def B221 (x0:(List Int)):Option R221:=gl0 x0 (wrap64 ((x0.length:Int)-1)) ([]:List Int)
theorem e221 (s:ask221.T):evFn E0 (orcOf (fes221)) an221 (loOf (les221 gl0 gl1)) 38 cd221 Tryz.f221.results.toList rm221 (ask221.mk' s) (decW rsk221 dec221)=B221 gl0 s.1.1:=by kernel_rfl
end
noncomputable def an183:Ann:=⟨[],[],[]⟩
noncomputable def cd183:Code:=(Tryz.f183.body).getD .skip
noncomputable def rm183:List RM:=[.d .st]
noncomputable def les183:List (LoE R183):=[]
noncomputable def fes183 (c221:(List Int)→Option R221):List FE:=[(fe221 c221)]
section
variable (c221:(List Int)→Option R221)
noncomputable def B183 (x0:Int):Option R183:=if(0:Int)≤32 then((c221 ([Go.bits .and .u64 x0 4294967295,x0/4294967296]:List Int)).bind fun r1=>(some r1))else(none)
theorem e183 (s:ask183.T):evFn E0 (orcOf (fes183 c221)) an183 (loOf (les183)) 9 cd183 Tryz.f183.results.toList rm183 (ask183.mk' s) (decW rsk183 dec183)=B183 c221 s.1.1:=by kernel_rfl
end
noncomputable def an141:Ann:=⟨[],[],[]⟩
noncomputable def cd141:Code:=(Tryz.f141.body).getD .skip
noncomputable def rm141:List RM:=[.d (.ag (.pr .bo .st))]
noncomputable def les141:List (LoE R141):=[]
noncomputable def fes141 (c183:Int→Option R183):List FE:=[(fe183 c183)]
section
variable (c183:Int→Option R183)
noncomputable def B141 (x0:Int):Option R141:=if x0<0 then((c183 (IntKind.u64.wrap ((IntKind.u64.wrap (wrap64 (0-(wrap64 (x0+1)))))+1))).bind fun r1=>(some (true,r1)))else((c183 (IntKind.u64.wrap (x0))).bind fun r2=>(some (false,r2)))
theorem e141 (s:ask141.T):evFn E0 (orcOf (fes141 c183)) an141 (loOf (les141)) 16 cd141 Tryz.f141.results.toList rm141 (ask141.mk' s) (decW rsk141 dec141)=B141 c183 s.1.1:=by kernel_rfl
end
noncomputable def an81:Ann:=⟨[],[],[]⟩
noncomputable def cd81:Code:=(Tryz.f81.body).getD .skip
noncomputable def rm81:List RM:=[.d (.ag (.pr (.ag (.pr .bo .st)) .st))]
noncomputable def les81:List (LoE R81):=[]
noncomputable def fes81 (c141:Int→Option R141):List FE:=[(fe141 c141)]
section
variable (c141:Int→Option R141)
noncomputable def B81 (x0:Int):Option R81:=(c141 x0).bind fun r1=>(some ((r1.1,r1.2),(⟨#[1]⟩:ByteArray)))
theorem e81 (s:ask81.T):evFn E0 (orcOf (fes81 c141)) an81 (loOf (les81)) 6 cd81 Tryz.f81.results.toList rm81 (ask81.mk' s) (decW rsk81 dec81)=B81 c141 s.1.1:=by kernel_rfl
end
noncomputable def an22:Ann:=⟨[(3,[(3, .own (.ag (.pr (.ag (.pr .bo .st)) .st))),(6, .any),(7, .any),(8, .any)])],[],[]⟩
noncomputable def cd22:Code:=(Tryz.f22.body).getD .skip
noncomputable def p22:List Pos:=posns an22 [] cd22
noncomputable def rm22:List RM:=[.d (.li (.ag (.pr (.ag (.pr .bo .st)) .st)))]
noncomputable def rk22 (s0:SbT ask22.bl):KX R22:=retK E0 Tryz.f22.results.toList rm22 (mkB ask22.bl s0) (decW rsk22 dec22)
noncomputable def k22l0:Sk:=⟨[(3, .f (.a (.ref 3))),(6, .d (.li (.it .i64))),(7, .d (.it .i64)),(8, .d (.it .i64))],[(3, .own (.ag (.pr (.ag (.pr .bo .st)) .st)) true)]⟩
noncomputable def les22 (gl0:(List Int)→Int→Int→(List TQ)→Option R22):List (LoE R22):=[⟨3,k22l0,fun s=>gl0 s.1.1 s.1.2.1 s.1.2.2.1 s.2.1⟩]
noncomputable def fes22 (c48:(List TQ)→Option R48) (c81:Int→Option R81):List FE:=[(fe48 c48),(fe81 c81)]
section
variable (gl0:(List Int)→Int→Int→(List TQ)→Option R22) (c48:(List TQ)→Option R48) (c81:Int→Option R81)
noncomputable def B22l0 (x6:(List Int)) (x7:Int) (x8:Int) (x3:(List TQ)):Option R22:=if x8<x7 then(if 0≤x8 then(if x8<(x6.length:Int)then((c81 (rd x6 x8)).bind fun r1=>(if(x3.length+1)*40≤140737488355328 then(gl0 x6 x7 (wrap64 (x8+1)) (x3++([(r1.1,r1.2)]:List TQ)))else(none)))else(none))else(none))else((c48 x3).bind fun r2=>(some r2))
theorem e22l0 (s0:SbT ask22.bl) (s:k22l0.T):evPos E0 (orcOf (fes22 c48 c81)) 20 an22 (loOf (les22 gl0)) (rk22 s0) (p22.getD 0 ⟨0,[], .skip⟩) (k22l0.mk' s)=B22l0 gl0 c48 c81 s.1.1 s.1.2.1 s.1.2.2.1 s.2.1:=by kernel_rfl
noncomputable def B22 (x0:(List Int)):Option R22:=gl0 x0 (x0.length:Int) 0 ([]:List TQ)
theorem e22 (s:ask22.T):evFn E0 (orcOf (fes22 c48 c81)) an22 (loOf (les22 gl0)) 20 cd22 Tryz.f22.results.toList rm22 (ask22.mk' s) (decW rsk22 dec22)=B22 gl0 s.1.1:=by kernel_rfl
end
noncomputable def an137:Ann:=⟨[(3,[(3, .any),(5, .any),(11, .any),(12, .any),(13, .any)])],[],[]⟩
noncomputable def cd137:Code:=(Tryz.f137.body).getD .skip
noncomputable def p137:List Pos:=posns an137 [] cd137
noncomputable def rm137:List RM:=[.d (.li (.ag (.pr (.ag (.pr .bo .st)) .st)))]
noncomputable def rk137 (s0:SbT ask137.bl):KX R137:=retK E0 Tryz.f137.results.toList rm137 (mkB ask137.bl s0) (decW rsk137 dec137)
noncomputable def k137l0:Sk:=⟨[(3, .f (.a (.ptr 3 0 []))),(5, .f (.a (.ref 5))),(11, .d (.li (.ag (.pr (.ag (.pr .bo .st)) .st)))),(12, .d (.it .i64)),(13, .d (.it .i64))],[(3, .cell (.ag (.pr (.ag (.pr .bo .st)) .st)) true),(5, .own (.ag (.pr (.ag (.pr .bo .st)) .st)) true)]⟩
noncomputable def les137 (gl0:(List TQ)→Int→Int→TQ→(List TQ)→Option R137):List (LoE R137):=[⟨3,k137l0,fun s=>gl0 s.1.1 s.1.2.1 s.1.2.2.1 s.2.1 s.2.2.1⟩]
noncomputable def fes137 (c92:(List TQ)→Option R92) (c142:TQ→TQ→Option R142):List FE:=[(fe92 c92),(fe142 c142)]
section
variable (gl0:(List TQ)→Int→Int→TQ→(List TQ)→Option R137) (c92:(List TQ)→Option R92) (c142:TQ→TQ→Option R142)
noncomputable def B137l0 (x11:(List TQ)) (x12:Int) (x13:Int) (x3:TQ) (x5:(List TQ)):Option R137:=if x13<x12 then(if 0≤x13 then(if x13<(x11.length:Int)then((c142 (rdOf ((false,(⟨#[]⟩:ByteArray)),(⟨#[]⟩:ByteArray)) x11 x13) x3).bind fun r1=>(if 0≤x13 then(if x13<(x5.length:Int)then(gl0 x11 x12 (wrap64 (x13+1)) x3 (x5.set (x13:Int).toNat (r1.1,r1.2)))else(none))else(none)))else(none))else(none))else((c92 x5).bind fun r2=>(some r2))
theorem e137l0 (s0:SbT ask137.bl) (s:k137l0.T):evPos E0 (orcOf (fes137 c92 c142)) 27 an137 (loOf (les137 gl0)) (rk137 s0) (p137.getD 0 ⟨0,[], .skip⟩) (k137l0.mk' s)=B137l0 gl0 c92 c142 s.1.1 s.1.2.1 s.1.2.2.1 s.2.1 s.2.2.1:=by kernel_rfl
noncomputable def B137 (x0:(List TQ)) (x1:TQ):Option R137:=if 0≤(x0.length:Int)then(if(x0.length:Int)≤(x0.length:Int)then(if((x0.length:Int):Int).toNat≤7036874417766 then(gl0 x0 (x0.length:Int) 0 x1 (List.replicate ((x0.length:Int):Int).toNat ((false,(⟨#[]⟩:ByteArray)),(⟨#[]⟩:ByteArray))))else(none))else(none))else(none)
theorem e137 (s:ask137.T):evFn E0 (orcOf (fes137 c92 c142)) an137 (loOf (les137 gl0)) 27 cd137 Tryz.f137.results.toList rm137 (ask137.mk' s) (decW rsk137 dec137)=B137 gl0 s.1.1 s.1.2.1:=by kernel_rfl
end
noncomputable def an166:Ann:=⟨[(3,[(0, .any),(1, .any),(5, .any),(14, .any),(15, .any)])],[],[]⟩
noncomputable def cd166:Code:=(Tryz.f166.body).getD .skip
noncomputable def p166:List Pos:=posns an166 [] cd166
noncomputable def rm166:List RM:=[.d (.li (.ag (.pr (.ag (.pr .bo .st)) .st)))]
noncomputable def rk166 (s0:SbT ask166.bl):KX R166:=retK E0 Tryz.f166.results.toList rm166 (mkB ask166.bl s0) (decW rsk166 dec166)
noncomputable def k166l0:Sk:=⟨[(0, .d (.li (.ag (.pr (.ag (.pr .bo .st)) .st)))),(1, .d (.li (.ag (.pr (.ag (.pr .bo .st)) .st)))),(5, .f (.a (.ref 5))),(14, .d (.it .i64)),(15, .d (.it .i64))],[(5, .own (.ag (.pr (.ag (.pr .bo .st)) .st)) true)]⟩
noncomputable def les166 (gl0:(List TQ)→(List TQ)→Int→Int→(List TQ)→Option R166):List (LoE R166):=[⟨3,k166l0,fun s=>gl0 s.1.1 s.1.2.1 s.1.2.2.1 s.1.2.2.2.1 s.2.1⟩]
noncomputable def fes166 (c88:TQ→TQ→Option R88) (c92:(List TQ)→Option R92) (c151:(List TQ)→Int→Option R151):List FE:=[(fe88 c88),(fe92 c92),(fe151 c151)]
section
variable (gl0:(List TQ)→(List TQ)→Int→Int→(List TQ)→Option R166) (c88:TQ→TQ→Option R88) (c92:(List TQ)→Option R92) (c151:(List TQ)→Int→Option R151)
noncomputable def B166l0 (x0:(List TQ)) (x1:(List TQ)) (x14:Int) (x15:Int) (x5:(List TQ)):Option R166:=if x15<x14 then((c151 x0 x15).bind fun r1=>((c151 x1 x15).bind fun r2=>((c88 (r1.1,r1.2) (r2.1,r2.2)).bind fun r3=>(if 0≤x15 then(if x15<(x5.length:Int)then(gl0 x0 x1 x14 (wrap64 (x15+1)) (x5.set (x15:Int).toNat (r3.1,r3.2)))else(none))else(none)))))else((c92 x5).bind fun r4=>(some r4))
theorem e166l0 (s0:SbT ask166.bl) (s:k166l0.T):evPos E0 (orcOf (fes166 c88 c92 c151)) 31 an166 (loOf (les166 gl0)) (rk166 s0) (p166.getD 0 ⟨0,[], .skip⟩) (k166l0.mk' s)=B166l0 gl0 c88 c92 c151 s.1.1 s.1.2.1 s.1.2.2.1 s.1.2.2.2.1 s.2.1:=by kernel_rfl
noncomputable def B166 (x0:(List TQ)) (x1:(List TQ)):Option R166:=if 0≤mx (x0.length:Int) (x1.length:Int)then(if mx (x0.length:Int) (x1.length:Int)≤mx (x0.length:Int) (x1.length:Int)then(if(mx (x0.length:Int) (x1.length:Int):Int).toNat≤7036874417766 then(gl0 x0 x1 ((List.replicate (mx (x0.length:Int) (x1.length:Int):Int).toNat ((false,(⟨#[]⟩:ByteArray)),(⟨#[]⟩:ByteArray))).length:Int) 0 (List.replicate (mx (x0.length:Int) (x1.length:Int):Int).toNat ((false,(⟨#[]⟩:ByteArray)),(⟨#[]⟩:ByteArray))))else(none))else(none))else(none)
theorem e166 (s:ask166.T):evFn E0 (orcOf (fes166 c88 c92 c151)) an166 (loOf (les166 gl0)) 31 cd166 Tryz.f166.results.toList rm166 (ask166.mk' s) (decW rsk166 dec166)=B166 gl0 s.1.1 s.1.2.1:=by kernel_rfl
end
noncomputable def an106:Ann:=⟨[(4,[(0, .any),(6, .any),(7, .any),(8, .val (.li (.ag (.pr (.ag (.pr .bo .st)) .st)))),(9, .any)])],[],[]⟩
noncomputable def cd106:Code:=(Tryz.f106.body).getD .skip
noncomputable def p106:List Pos:=posns an106 [] cd106
noncomputable def rm106:List RM:=[.d (.li (.ag (.pr (.ag (.pr .bo .st)) .st))), .d .bo]
noncomputable def rk106 (s0:SbT ask106.bl):KX R106:=retK E0 Tryz.f106.results.toList rm106 (mkB ask106.bl s0) (decW rsk106 dec106)
noncomputable def k106l0:Sk:=⟨[(0, .d (.li (.ag (.pr (.ag (.pr .bo .st)) .st)))),(6, .d (.li (.ag (.pr (.ag (.pr .bo .st)) .st)))),(7, .d (.li (.ag (.pr (.ag (.pr .bo .st)) .st)))),(8, .d (.li (.ag (.pr (.ag (.pr .bo .st)) .st)))),(9, .d (.li (.ag (.pr (.ag (.pr .bo .st)) .st))))],[]⟩
noncomputable def les106 (gl0:(List TQ)→(List TQ)→(List TQ)→(List TQ)→(List TQ)→Option R106):List (LoE R106):=[⟨4,k106l0,fun s=>gl0 s.1.1 s.1.2.1 s.1.2.2.1 s.1.2.2.2.1 s.1.2.2.2.2.1⟩]
noncomputable def fes106 (c86:(List Int)→Option R86) (c91:(List TQ)→(List TQ)→Option R91) (c137:(List TQ)→TQ→Option R137) (c144:(List TQ)→(List TQ)→Option R144) (c147:TQ→Option R147) (c165:(List TQ)→(List TQ)→Option R165) (c166:(List TQ)→(List TQ)→Option R166):List FE:=[(fe86 c86),(fe91 c91),(fe137 c137),(fe144 c144),(fe147 c147),(fe165 c165),(fe166 c166)]
section
variable (gl0:(List TQ)→(List TQ)→(List TQ)→(List TQ)→(List TQ)→Option R106) (c86:(List Int)→Option R86) (c91:(List TQ)→(List TQ)→Option R91) (c137:(List TQ)→TQ→Option R137) (c144:(List TQ)→(List TQ)→Option R144) (c147:TQ→Option R147) (c165:(List TQ)→(List TQ)→Option R165) (c166:(List TQ)→(List TQ)→Option R166)
noncomputable def B106l0 (x0:(List TQ)) (x6:(List TQ)) (x7:(List TQ)) (x8:(List TQ)) (x9:(List TQ)):Option R106:=if(x7.length:Int)>1 then((c144 x6 x7).bind fun r1=>((c91 r1.1 x9).bind fun r2=>((c166 x8 r2).bind fun r3=>(gl0 x0 x7 r1.2 x9 r3))))else(if(x7.length:Int)=0 then(some (([]:List TQ),false))else(if(0:Int)≤0 then(if 0<(x7.length:Int)then((c147 (rdOf ((false,(⟨#[]⟩:ByteArray)),(⟨#[]⟩:ByteArray)) x7 0)).bind fun r4=>((c137 x9 (r4.1,r4.2)).bind fun r5=>((c165 x0 r5).bind fun r6=>(some (r6,true)))))else(none))else(none)))
theorem e106l0 (s0:SbT ask106.bl) (s:k106l0.T):evPos E0 (orcOf (fes106 c86 c91 c137 c144 c147 c165 c166)) 46 an106 (loOf (les106 gl0)) (rk106 s0) (p106.getD 0 ⟨0,[], .skip⟩) (k106l0.mk' s)=B106l0 gl0 c91 c137 c144 c147 c165 c166 s.1.1 s.1.2.1 s.1.2.2.1 s.1.2.2.2.1 s.1.2.2.2.2.1:=by kernel_rfl
noncomputable def B106 (x0:(List TQ)) (x1:(List TQ)):Option R106:=(c165 x0 x1).bind fun r1=>((c86 ([1]:List Int)).bind fun r2=>(gl0 x0 x0 r1 ([]:List TQ) r2))
theorem e106 (s:ask106.T):evFn E0 (orcOf (fes106 c86 c91 c137 c144 c147 c165 c166)) an106 (loOf (les106 gl0)) 46 cd106 Tryz.f106.results.toList rm106 (ask106.mk' s) (decW rsk106 dec106)=B106 gl0 c86 c165 s.1.1 s.1.2.1:=by kernel_rfl
end
noncomputable def an122:Ann:=⟨[(2,[(0, .any),(3, .any)])],[],[]⟩
noncomputable def cd122:Code:=(Tryz.f122.body).getD .skip
noncomputable def p122:List Pos:=posns an122 [] cd122
noncomputable def rm122:List RM:=[.d (.li (.li (.ag (.pr (.ag (.pr .bo .st)) .st))))]
noncomputable def rk122 (s0:SbT ask122.bl):KX R122:=retK E0 Tryz.f122.results.toList rm122 (mkB ask122.bl s0) (decW rsk122 dec122)
noncomputable def k122l0:Sk:=⟨[(0, .d (.li (.li (.ag (.pr (.ag (.pr .bo .st)) .st))))),(3, .d (.it .i64))],[]⟩
noncomputable def les122 (gl0:(List (List TQ))→Int→Option R122):List (LoE R122):=[⟨2,k122l0,fun s=>gl0 s.1.1 s.1.2.1⟩]
noncomputable def fes122:List FE:=[]
section
variable (gl0:(List (List TQ))→Int→Option R122)
noncomputable def B122l0 (x0:(List (List TQ))) (x3:Int):Option R122:=if x3>0 then(if 0≤wrap64 (x3-1)then(if wrap64 (x3-1)<(x0.length:Int)then(if((rdOf ([]:List TQ) x0 (wrap64 (x3-1))).length:Int)=0 then(gl0 x0 (wrap64 (x3-1)))else(if(0:Int)≤0 then(if 0≤x3 then(if x3≤x3 then(if x3≤(x0.length:Int)then(some (slice_ x0 0 x3))else(none))else(none))else(none))else(none)))else(none))else(none))else(if(0:Int)≤0 then(if 0≤x3 then(if x3≤x3 then(if x3≤(x0.length:Int)then(some (slice_ x0 0 x3))else(none))else(none))else(none))else(none))
theorem e122l0 (s0:SbT ask122.bl) (s:k122l0.T):evPos E0 (orcOf (fes122)) 23 an122 (loOf (les122 gl0)) (rk122 s0) (p122.getD 0 ⟨0,[], .skip⟩) (k122l0.mk' s)=B122l0 gl0 s.1.1 s.1.2.1:=by kernel_rfl
noncomputable def B122 (x0:(List (List TQ))):Option R122:=gl0 x0 (x0.length:Int)
theorem e122 (s:ask122.T):evFn E0 (orcOf (fes122)) an122 (loOf (les122 gl0)) 23 cd122 Tryz.f122.results.toList rm122 (ask122.mk' s) (decW rsk122 dec122)=B122 gl0 s.1.1:=by kernel_rfl
end
noncomputable def an107:Ann:=⟨[(7,[(2, .any),(3, .any),(4, .any),(10, .any),(11, .any),(12, .any),(13, .any)]),(13,[(2, .any),(3, .any),(4, .any),(10, .any),(11, .any),(12, .any),(13, .any),(14, .any),(60, .any),(61, .any)])],[],[]⟩
noncomputable def cd107:Code:=(Tryz.f107.body).getD .skip
noncomputable def p107:List Pos:=posns an107 [] cd107
noncomputable def rm107:List RM:=[.d (.li (.li (.ag (.pr (.ag (.pr .bo .st)) .st)))), .d (.li (.li (.ag (.pr (.ag (.pr .bo .st)) .st))))]
noncomputable def rk107 (s0:SbT ask107.bl):KX R107:=retK E0 Tryz.f107.results.toList rm107 (mkB ask107.bl s0) (decW rsk107 dec107)
noncomputable def k107l0:Sk:=⟨[(2, .d (.li (.li (.ag (.pr (.ag (.pr .bo .st)) .st))))),(3, .d (.li (.ag (.pr (.ag (.pr .bo .st)) .st)))),(4, .f (.a (.ptr 4 0 []))),(10, .f (.a (.ref 10))),(11, .d (.it .i64)),(12, .f (.a (.ref 12))),(13, .d (.it .i64))],[(4, .cell (.ag (.li (.ag (.pr (.ag (.pr .bo .st)) .st)))) true),(10, .own (.li (.ag (.pr (.ag (.pr .bo .st)) .st))) true),(12, .own (.li (.ag (.pr (.ag (.pr .bo .st)) .st))) true)]⟩
noncomputable def k107l1:Sk:=⟨[(2, .d (.li (.li (.ag (.pr (.ag (.pr .bo .st)) .st))))),(3, .d (.li (.ag (.pr (.ag (.pr .bo .st)) .st)))),(4, .f (.a (.ptr 4 0 []))),(10, .f (.a (.ref 10))),(11, .d (.it .i64)),(12, .f (.a (.ref 12))),(13, .d (.it .i64)),(14, .d (.li (.ag (.pr (.ag (.pr .bo .st)) .st)))),(60, .d (.it .i64)),(61, .d (.it .i64))],[(4, .cell (.ag (.li (.ag (.pr (.ag (.pr .bo .st)) .st)))) true),(10, .own (.li (.ag (.pr (.ag (.pr .bo .st)) .st))) true),(12, .own (.li (.ag (.pr (.ag (.pr .bo .st)) .st))) true)]⟩
noncomputable def les107 (gl0:(List (List TQ))→(List TQ)→Int→Int→(List TQ)→(List (List TQ))→(List (List TQ))→Option R107) (gl1:(List (List TQ))→(List TQ)→Int→Int→(List TQ)→Int→Int→(List TQ)→(List (List TQ))→(List (List TQ))→Option R107):List (LoE R107):=[⟨7,k107l0,fun s=>gl0 s.1.1 s.1.2.1 s.1.2.2.1 s.1.2.2.2.1 s.2.1 s.2.2.1 s.2.2.2.1⟩,⟨13,k107l1,fun s=>gl1 s.1.1 s.1.2.1 s.1.2.2.1 s.1.2.2.2.1 s.1.2.2.2.2.1 s.1.2.2.2.2.2.1 s.1.2.2.2.2.2.2.1 s.2.1 s.2.2.1 s.2.2.2.1⟩]
noncomputable def fes107 (c122:(List (List TQ))→Option R122) (c146:(List TQ)→(List TQ)→(List TQ)→Option R146) (c166:(List TQ)→(List TQ)→Option R166):List FE:=[(fe122 c122),(fe146 c146),(fe166 c166)]
section
variable (gl0:(List (List TQ))→(List TQ)→Int→Int→(List TQ)→(List (List TQ))→(List (List TQ))→Option R107) (gl1:(List (List TQ))→(List TQ)→Int→Int→(List TQ)→Int→Int→(List TQ)→(List (List TQ))→(List (List TQ))→Option R107) (c122:(List (List TQ))→Option R122) (c146:(List TQ)→(List TQ)→(List TQ)→Option R146) (c166:(List TQ)→(List TQ)→Option R166)
noncomputable def B107l0 (x2:(List (List TQ))) (x3:(List TQ)) (x11:Int) (x13:Int) (x4:(List TQ)) (x10:(List (List TQ))) (x12:(List (List TQ))):Option R107:=if x13≥0 then(if 0≤wrap64 ((wrap64 (x13+x11))-1)then(if wrap64 ((wrap64 (x13+x11))-1)<(x10.length:Int)then((c146 x4 (rdOf ([]:List TQ) x10 (wrap64 ((wrap64 (x13+x11))-1))) x3).bind fun r1=>(if 0≤x13 then(if x13<(x12.length:Int)then(if(r1.length:Int)=0 then(gl0 x2 x3 x11 (wrap64 (x13-1)) x4 x10 (x12.set (x13:Int).toNat r1))else(gl1 x2 x3 x11 x13 r1 (wrap64 (x11-1)) 0 x4 x10 (x12.set (x13:Int).toNat r1)))else(none))else(none)))else(none))else(none))else((c122 x12).bind fun r2=>(if(0:Int)≤0 then(if 0≤wrap64 (x11-1)then(if wrap64 (x11-1)≤(x10.length:Int)then(if(x10.length:Int)≤(x10.length:Int)then((c122 (slice_ x10 0 (wrap64 (x11-1)))).bind fun r3=>(some (r2,r3)))else(none))else(none))else(none))else(none)))
theorem e107l0 (s0:SbT ask107.bl) (s:k107l0.T):evPos E0 (orcOf (fes107 c122 c146 c166)) 92 an107 (loOf (les107 gl0 gl1)) (rk107 s0) (p107.getD 0 ⟨0,[], .skip⟩) (k107l0.mk' s)=B107l0 gl0 gl1 c122 c146 s.1.1 s.1.2.1 s.1.2.2.1 s.1.2.2.2.1 s.2.1 s.2.2.1 s.2.2.2.1:=by kernel_rfl
noncomputable def B107l1 (x2:(List (List TQ))) (x3:(List TQ)) (x11:Int) (x13:Int) (x14:(List TQ)) (x60:Int) (x61:Int) (x4:(List TQ)) (x10:(List (List TQ))) (x12:(List (List TQ))):Option R107:=if x61<x60 then(if 0≤wrap64 (x13+x61)then(if wrap64 (x13+x61)<(x10.length:Int)then(if 0≤x61 then(if x61<(x2.length:Int)then((c146 x4 x14 (rdOf ([]:List TQ) x2 x61)).bind fun r1=>((c166 (rdOf ([]:List TQ) x10 (wrap64 (x13+x61))) r1).bind fun r2=>(if 0≤wrap64 (x13+x61)then(if wrap64 (x13+x61)<(x10.length:Int)then(gl1 x2 x3 x11 x13 x14 x60 (wrap64 (x61+1)) x4 (x10.set (wrap64 (x13+x61):Int).toNat r2) x12)else(none))else(none))))else(none))else(none))else(none))else(none))else(gl0 x2 x3 x11 (wrap64 (x13-1)) x4 x10 x12)
theorem e107l1 (s0:SbT ask107.bl) (s:k107l1.T):evPos E0 (orcOf (fes107 c122 c146 c166)) 92 an107 (loOf (les107 gl0 gl1)) (rk107 s0) (p107.getD 1 ⟨0,[], .skip⟩) (k107l1.mk' s)=B107l1 gl0 gl1 c146 c166 s.1.1 s.1.2.1 s.1.2.2.1 s.1.2.2.2.1 s.1.2.2.2.2.1 s.1.2.2.2.2.2.1 s.1.2.2.2.2.2.2.1 s.2.1 s.2.2.1 s.2.2.2.1:=by kernel_rfl
noncomputable def B107 (x0:(List TQ)) (x1:(List (List TQ))) (x2:(List (List TQ))) (x3:(List TQ)):Option R107:=if(([]:List (List TQ)).length+x1.length)*24≤140737488355328 then(if(x1.length:Int)<(x2.length:Int)then((c122 (([]:List (List TQ))++x1)).bind fun r1=>(some (([]:List (List TQ)),r1)))else(if 0≤wrap64 ((wrap64 ((x1.length:Int)-(x2.length:Int)))+1)then(if wrap64 ((wrap64 ((x1.length:Int)-(x2.length:Int)))+1)≤wrap64 ((wrap64 ((x1.length:Int)-(x2.length:Int)))+1)then(if(wrap64 ((wrap64 ((x1.length:Int)-(x2.length:Int)))+1):Int).toNat≤11728124029610 then(gl0 x2 x3 (x2.length:Int) (wrap64 ((x1.length:Int)-(x2.length:Int))) x0 (([]:List (List TQ))++x1) (List.replicate (wrap64 ((wrap64 ((x1.length:Int)-(x2.length:Int)))+1):Int).toNat ([]:List TQ)))else(none))else(none))else(none)))else(none)
theorem e107 (s:ask107.T):evFn E0 (orcOf (fes107 c122 c146 c166)) an107 (loOf (les107 gl0 gl1)) 92 cd107 Tryz.f107.results.toList rm107 (ask107.mk' s) (decW rsk107 dec107)=B107 gl0 c122 s.1.1 s.1.2.1 s.1.2.2.1 s.1.2.2.2.1:=by kernel_rfl
end
noncomputable def an176:Ann:=⟨[],[],[]⟩
noncomputable def cd176:Code:=(Tryz.f176.body).getD .skip
noncomputable def rm176:List RM:=[.d .bo]
noncomputable def les176:List (LoE R176):=[]
noncomputable def fes176 (c153Large:(List TQ)→Option R153Large):List FE:=[(fe153Large c153Large)]
section
variable (c153Large:(List TQ)→Option R153Large)
noncomputable def B176 (x0:(List TQ)):Option R176:=(c153Large x0).bind fun r1=>(some r1)
theorem e176 (s:ask176.T):evFn E0 (orcOf (fes176 c153Large)) an176 (loOf (les176)) 5 cd176 Tryz.f176.results.toList rm176 (ask176.mk' s) (decW rsk176 dec176)=B176 c153Large s.1.1:=by kernel_rfl
end
noncomputable def an216Large:Ann:=⟨[(2,[(0, .any),(1, .any),(7, .any),(8, .any)])],[],[]⟩
noncomputable def cd216Large:Code:=(Tryz.f216.body).getD .skip
noncomputable def p216Large:List Pos:=posns an216Large [] cd216Large
noncomputable def rm216Large:List RM:=[.d (.it .i64)]
noncomputable def rk216Large (s0:SbT ask216Large.bl):KX R216Large:=retK E0 Tryz.f216.results.toList rm216Large (mkB ask216Large.bl s0) (decW rsk216Large dec216Large)
noncomputable def k216Largel0:Sk:=⟨[(0, .d (.li (.li (.ag (.pr (.ag (.pr .bo .st)) .st))))),(1, .f (.cl 176 [])),(7, .d (.it .i64)),(8, .d (.it .i64))],[]⟩
noncomputable def les216Large (gl0:(List (List TQ))→Int→Int→Option R216Large):List (LoE R216Large):=[⟨2,k216Largel0,fun s=>gl0 s.1.1 s.1.2.1 s.1.2.2.1⟩]
noncomputable def fes216Large (c176:(List TQ)→Option R176):List FE:=[(fe176 c176)]
section
variable (gl0:(List (List TQ))→Int→Int→Option R216Large) (c176:(List TQ)→Option R176)
noncomputable def B216Largel0 (x0:(List (List TQ))) (x7:Int) (x8:Int):Option R216Large:=if x8<x7 then(if 0≤x8 then(if x8<(x0.length:Int)then((c176 (rdOf ([]:List TQ) x0 x8)).bind fun r1=>(cnd (r1) (some x8) (gl0 x0 x7 (wrap64 (x8+1)))))else(none))else(none))else(some (-1))
theorem e216Largel0 (s0:SbT ask216Large.bl) (s:k216Largel0.T):evPos E0 (orcOf (fes216Large c176)) 19 an216Large (loOf (les216Large gl0)) (rk216Large s0) (p216Large.getD 0 ⟨0,[], .skip⟩) (k216Largel0.mk' s)=B216Largel0 gl0 c176 s.1.1 s.1.2.1 s.1.2.2.1:=by kernel_rfl
noncomputable def B216Large (x0:(List (List TQ))):Option R216Large:=gl0 x0 (x0.length:Int) 0
theorem e216Large (s:ask216Large.T):evFn E0 (orcOf (fes216Large c176)) an216Large (loOf (les216Large gl0)) 19 cd216Large Tryz.f216.results.toList rm216Large (ask216Large.mk' s) (decW rsk216Large dec216Large)=B216Large gl0 s.1.1:=by kernel_rfl
end
noncomputable def an175Large:Ann:=⟨[],[],[]⟩
noncomputable def cd175Large:Code:=(Tryz.f175.body).getD .skip
noncomputable def rm175Large:List RM:=[.d .bo]
noncomputable def les175Large:List (LoE R175Large):=[]
noncomputable def fes175Large (c216Large:(List (List TQ))→Option R216Large):List FE:=[(fe216Large c216Large)]
section
variable (c216Large:(List (List TQ))→Option R216Large)
noncomputable def B175Large (x0:(List (List TQ))):Option R175Large:=(c216Large x0).bind fun r1=>(some (decide (r1≥0)))
theorem e175Large (s:ask175Large.T):evFn E0 (orcOf (fes175Large c216Large)) an175Large (loOf (les175Large)) 9 cd175Large Tryz.f175.results.toList rm175Large (ask175Large.mk' s) (decW rsk175Large dec175Large)=B175Large c216Large s.1.1:=by kernel_rfl
end
noncomputable def an128:Ann:=⟨[],[],[]⟩
noncomputable def cd128:Code:=(Tryz.f128.body).getD .skip
noncomputable def rm128:List RM:=[.d .bo]
noncomputable def les128:List (LoE R128):=[]
noncomputable def fes128 (c175Large:(List (List TQ))→Option R175Large):List FE:=[(fe175Large c175Large)]
section
variable (c175Large:(List (List TQ))→Option R175Large)
noncomputable def B128 (x0:(List (List TQ))):Option R128:=(c175Large x0).bind fun r1=>(some r1)
theorem e128 (s:ask128.T):evFn E0 (orcOf (fes128 c175Large)) an128 (loOf (les128)) 5 cd128 Tryz.f128.results.toList rm128 (ask128.mk' s) (decW rsk128 dec128)=B128 c175Large s.1.1:=by kernel_rfl
end
noncomputable def an108:Ann:=⟨[],[],[]⟩
noncomputable def cd108:Code:=(Tryz.f108.body).getD .skip
noncomputable def rm108:List RM:=[.d .bo]
noncomputable def les108:List (LoE R108):=[]
noncomputable def fes108 (c128:(List (List TQ))→Option R128):List FE:=[(fe128 c128)]
section
variable (c128:(List (List TQ))→Option R128)
noncomputable def B108 (x0:(List (List TQ))):Option R108:=if(x0.length:Int)>65 then(some true)else((c128 x0).bind fun r1=>(some r1))
theorem e108 (s:ask108.T):evFn E0 (orcOf (fes108 c128)) an108 (loOf (les108)) 10 cd108 Tryz.f108.results.toList rm108 (ask108.mk' s) (decW rsk108 dec108)=B108 c128 s.1.1:=by kernel_rfl
end
noncomputable def an28:Ann:=⟨[],[],[]⟩
noncomputable def cd28:Code:=(Tryz.f28.body).getD .skip
noncomputable def rm28:List RM:=[.d (.li (.li (.ag (.pr (.ag (.pr .bo .st)) .st)))), .d (.li (.li (.ag (.pr (.ag (.pr .bo .st)) .st)))), .d (.it .i64)]
noncomputable def les28:List (LoE R28):=[]
noncomputable def fes28 (c83:(List TQ)→(List (List (List TQ)))→Option R83) (c106:(List TQ)→(List TQ)→Option R106) (c107:(List TQ)→(List (List TQ))→(List (List TQ))→(List TQ)→Option R107) (c108:(List (List TQ))→Option R108):List FE:=[(fe83 c83),(fe106 c106),(fe107 c107),(fe108 c108)]
section
variable (c83:(List TQ)→(List (List (List TQ)))→Option R83) (c106:(List TQ)→(List TQ)→Option R106) (c107:(List TQ)→(List (List TQ))→(List (List TQ))→(List TQ)→Option R107) (c108:(List (List TQ))→Option R108)
noncomputable def B28 (x0:(List TQ)) (x1:(List (List TQ))) (x2:(List (List TQ))):Option R28:=(c83 x0 ([x1,x2]:List (List (List TQ)))).bind fun r1=>(if r1≠0 then(some (([]:List (List TQ)),([]:List (List TQ)),r1))else(if(x2.length:Int)=0 then(some (([]:List (List TQ)),([]:List (List TQ)),6))else(if 0≤wrap64 ((x2.length:Int)-1)then(if wrap64 ((x2.length:Int)-1)<(x2.length:Int)then((c106 x0 (rdOf ([]:List TQ) x2 (wrap64 ((x2.length:Int)-1)))).bind fun r2=>(cnd ((!r2.2)) (some (([]:List (List TQ)),([]:List (List TQ)),6)) ((c107 x0 x1 x2 r2.1).bind fun r3=>((c108 r3.1).bind fun r4=>(cnd (r4) (some (([]:List (List TQ)),([]:List (List TQ)),4)) ((c108 r3.2).bind fun r5=>(cnd (r5) (some (([]:List (List TQ)),([]:List (List TQ)),4)) (some (r3.1,r3.2,0)))))))))else(none))else(none))))
theorem e28 (s:ask28.T):evFn E0 (orcOf (fes28 c83 c106 c107 c108)) an28 (loOf (les28)) 55 cd28 Tryz.f28.results.toList rm28 (ask28.mk' s) (decW rsk28 dec28)=B28 c83 c106 c107 c108 s.1.1 s.1.2.1 s.1.2.2.1:=by kernel_rfl
end
noncomputable def an29:Ann:=⟨[(4,[(0, .any),(1, .any),(12, .any),(13, .any)])],[],[]⟩
noncomputable def cd29:Code:=(Tryz.f29.body).getD .skip
noncomputable def p29:List Pos:=posns an29 [] cd29
noncomputable def rm29:List RM:=[.d .bo]
noncomputable def rk29 (s0:SbT ask29.bl):KX R29:=retK E0 Tryz.f29.results.toList rm29 (mkB ask29.bl s0) (decW rsk29 dec29)
noncomputable def k29l0:Sk:=⟨[(0, .d (.li (.li (.ag (.pr (.ag (.pr .bo .st)) .st))))),(1, .d (.li (.li (.ag (.pr (.ag (.pr .bo .st)) .st))))),(12, .d (.it .i64)),(13, .d (.it .i64))],[]⟩
noncomputable def les29 (gl0:(List (List TQ))→(List (List TQ))→Int→Int→Option R29):List (LoE R29):=[⟨4,k29l0,fun s=>gl0 s.1.1 s.1.2.1 s.1.2.2.1 s.1.2.2.2.1⟩]
noncomputable def fes29 (c18:(List TQ)→(List TQ)→Option R18):List FE:=[(fe18 c18)]
section
variable (gl0:(List (List TQ))→(List (List TQ))→Int→Int→Option R29) (c18:(List TQ)→(List TQ)→Option R18)
noncomputable def B29l0 (x0:(List (List TQ))) (x1:(List (List TQ))) (x12:Int) (x13:Int):Option R29:=if x13<x12 then(if 0≤x13 then(if x13<(x0.length:Int)then(if 0≤x13 then(if x13<(x1.length:Int)then((c18 (rdOf ([]:List TQ) x0 x13) (rdOf ([]:List TQ) x1 x13)).bind fun r1=>(cnd ((!r1)) (some false) (gl0 x0 x1 x12 (wrap64 (x13+1)))))else(none))else(none))else(none))else(none))else(some true)
theorem e29l0 (s0:SbT ask29.bl) (s:k29l0.T):evPos E0 (orcOf (fes29 c18)) 27 an29 (loOf (les29 gl0)) (rk29 s0) (p29.getD 0 ⟨0,[], .skip⟩) (k29l0.mk' s)=B29l0 gl0 c18 s.1.1 s.1.2.1 s.1.2.2.1 s.1.2.2.2.1:=by kernel_rfl
noncomputable def B29 (x0:(List (List TQ))) (x1:(List (List TQ))):Option R29:=if(x0.length:Int)≠(x1.length:Int)then(some false)else(gl0 x0 x1 (x0.length:Int) 0)
theorem e29 (s:ask29.T):evFn E0 (orcOf (fes29 c18)) an29 (loOf (les29 gl0)) 27 cd29 Tryz.f29.results.toList rm29 (ask29.mk' s) (decW rsk29 dec29)=B29 gl0 s.1.1 s.1.2.1:=by kernel_rfl
end
noncomputable def an131:Ann:=⟨[(3,[(2, .any),(3, .any),(7, .any),(13, .any),(14, .any),(15, .any)])],[],[]⟩
noncomputable def cd131:Code:=(Tryz.f131.body).getD .skip
noncomputable def p131:List Pos:=posns an131 [] cd131
noncomputable def rm131:List RM:=[.d (.li (.li (.ag (.pr (.ag (.pr .bo .st)) .st))))]
noncomputable def rk131 (s0:SbT ask131.bl):KX R131:=retK E0 Tryz.f131.results.toList rm131 (mkB ask131.bl s0) (decW rsk131 dec131)
noncomputable def k131l0:Sk:=⟨[(2, .d (.li (.ag (.pr (.ag (.pr .bo .st)) .st)))),(3, .f (.a (.ptr 3 0 []))),(7, .f (.a (.ref 7))),(13, .d (.li (.li (.ag (.pr (.ag (.pr .bo .st)) .st))))),(14, .d (.it .i64)),(15, .d (.it .i64))],[(3, .cell (.ag (.li (.ag (.pr (.ag (.pr .bo .st)) .st)))) true),(7, .own (.li (.ag (.pr (.ag (.pr .bo .st)) .st))) true)]⟩
noncomputable def les131 (gl0:(List TQ)→(List (List TQ))→Int→Int→(List TQ)→(List (List TQ))→Option R131):List (LoE R131):=[⟨3,k131l0,fun s=>gl0 s.1.1 s.1.2.1 s.1.2.2.1 s.1.2.2.2.1 s.2.1 s.2.2.1⟩]
noncomputable def fes131 (c122:(List (List TQ))→Option R122) (c146:(List TQ)→(List TQ)→(List TQ)→Option R146):List FE:=[(fe122 c122),(fe146 c146)]
section
variable (gl0:(List TQ)→(List (List TQ))→Int→Int→(List TQ)→(List (List TQ))→Option R131) (c122:(List (List TQ))→Option R122) (c146:(List TQ)→(List TQ)→(List TQ)→Option R146)
noncomputable def B131l0 (x2:(List TQ)) (x13:(List (List TQ))) (x14:Int) (x15:Int) (x3:(List TQ)) (x7:(List (List TQ))):Option R131:=if x15<x14 then(if 0≤x15 then(if x15<(x13.length:Int)then((c146 x3 (rdOf ([]:List TQ) x13 x15) x2).bind fun r1=>(if 0≤x15 then(if x15<(x7.length:Int)then(gl0 x2 x13 x14 (wrap64 (x15+1)) x3 (x7.set (x15:Int).toNat r1))else(none))else(none)))else(none))else(none))else((c122 x7).bind fun r2=>(some r2))
theorem e131l0 (s0:SbT ask131.bl) (s:k131l0.T):evPos E0 (orcOf (fes131 c122 c146)) 31 an131 (loOf (les131 gl0)) (rk131 s0) (p131.getD 0 ⟨0,[], .skip⟩) (k131l0.mk' s)=B131l0 gl0 c122 c146 s.1.1 s.1.2.1 s.1.2.2.1 s.1.2.2.2.1 s.2.1 s.2.2.1:=by kernel_rfl
noncomputable def B131 (x0:(List TQ)) (x1:(List (List TQ))) (x2:(List TQ)):Option R131:=if 0≤(x1.length:Int)then(if(x1.length:Int)≤(x1.length:Int)then(if((x1.length:Int):Int).toNat≤11728124029610 then(gl0 x2 x1 (x1.length:Int) 0 x0 (List.replicate ((x1.length:Int):Int).toNat ([]:List TQ)))else(none))else(none))else(none)
theorem e131 (s:ask131.T):evFn E0 (orcOf (fes131 c122 c146)) an131 (loOf (les131 gl0)) 31 cd131 Tryz.f131.results.toList rm131 (ask131.mk' s) (decW rsk131 dec131)=B131 gl0 s.1.1 s.1.2.1 s.1.2.2.1:=by kernel_rfl
end
noncomputable def an110:Ann:=⟨[],[],[]⟩
noncomputable def cd110:Code:=(Tryz.f110.body).getD .skip
noncomputable def rm110:List RM:=[.d (.li (.li (.ag (.pr (.ag (.pr .bo .st)) .st)))), .d .bo]
noncomputable def les110:List (LoE R110):=[]
noncomputable def fes110 (c106:(List TQ)→(List TQ)→Option R106) (c131:(List TQ)→(List (List TQ))→(List TQ)→Option R131):List FE:=[(fe106 c106),(fe131 c131)]
section
variable (c106:(List TQ)→(List TQ)→Option R106) (c131:(List TQ)→(List (List TQ))→(List TQ)→Option R131)
noncomputable def B110 (x0:(List TQ)) (x1:(List (List TQ))):Option R110:=if(x1.length:Int)=0 then(some (([]:List (List TQ)),true))else(if 0≤wrap64 ((x1.length:Int)-1)then(if wrap64 ((x1.length:Int)-1)<(x1.length:Int)then((c106 x0 (rdOf ([]:List TQ) x1 (wrap64 ((x1.length:Int)-1)))).bind fun r1=>(cnd ((!r1.2)) (some (([]:List (List TQ)),false)) ((c131 x0 x1 r1.1).bind fun r2=>(some (r2,true)))))else(none))else(none))
theorem e110 (s:ask110.T):evFn E0 (orcOf (fes110 c106 c131)) an110 (loOf (les110)) 29 cd110 Tryz.f110.results.toList rm110 (ask110.mk' s) (decW rsk110 dec110)=B110 c106 c131 s.1.1 s.1.2.1:=by kernel_rfl
end
noncomputable def an112:Ann:=⟨[],[],[]⟩
noncomputable def cd112:Code:=(Tryz.f112.body).getD .skip
noncomputable def rm112:List RM:=[.d (.li (.li (.ag (.pr (.ag (.pr .bo .st)) .st))))]
noncomputable def les112:List (LoE R112):=[]
noncomputable def fes112:List FE:=[]
noncomputable def B112 (x0:(List (List TQ))):Option R112:=some x0
theorem e112 (s:ask112.T):evFn E0 (orcOf (fes112)) an112 (loOf (les112)) 3 cd112 Tryz.f112.results.toList rm112 (ask112.mk' s) (decW rsk112 dec112)=B112 s.1.1:=by kernel_rfl
noncomputable def an111Gcd:Ann:=⟨[],[],[]⟩
noncomputable def cd111Gcd:Code:=(Tryz.f111.body).getD .skip
noncomputable def rm111Gcd:List RM:=[.d (.li (.li (.ag (.pr (.ag (.pr .bo .st)) .st)))), .d (.it .i64)]
noncomputable def les111Gcd:List (LoE R111Gcd):=[]
noncomputable def fes111Gcd (c108:(List (List TQ))→Option R108) (c112:(List (List TQ))→Option R112):List FE:=[(fe108 c108),(fe112 c112)]
section
variable (c108:(List (List TQ))→Option R108) (c112:(List (List TQ))→Option R112)
noncomputable def B111Gcd (x0:((List (List TQ))×Unit)):Option R111Gcd:=(c112 x0.1).bind fun r1=>((c108 r1).bind fun r2=>(cnd (r2) (some (([]:List (List TQ)),4)) (some (r1,0))))
theorem e111Gcd (s:ask111Gcd.T):evFn E0 (orcOf (fes111Gcd c108 c112)) an111Gcd (loOf (les111Gcd)) 10 cd111Gcd Tryz.f111.results.toList rm111Gcd (ask111Gcd.mk' s) (decW rsk111Gcd dec111Gcd)=B111Gcd c108 c112 s.1.1:=by kernel_rfl
end
noncomputable def an31:Ann:=⟨[(5,[(3, .any),(9, .any)])],[],[]⟩
noncomputable def cd31:Code:=(Tryz.f31.body).getD .skip
noncomputable def p31:List Pos:=posns an31 [] cd31
noncomputable def rm31:List RM:=[.d (.li (.li (.ag (.pr (.ag (.pr .bo .st)) .st)))), .d (.it .i64)]
noncomputable def rk31 (s0:SbT ask31.bl):KX R31:=retK E0 Tryz.f31.results.toList rm31 (mkB ask31.bl s0) (decW rsk31 dec31)
noncomputable def k31l0:Sk:=⟨[(3, .f (.a (.ptr 3 0 []))),(9, .f (.a (.ptr 9 0 [])))],[(3, .cell (.ag (.li (.ag (.pr (.ag (.pr .bo .st)) .st)))) true),(9, .cell (.ar (.pr (.li (.li (.ag (.pr (.ag (.pr .bo .st)) .st)))) (.li (.li (.ag (.pr (.ag (.pr .bo .st)) .st)))))) true)]⟩
noncomputable def les31 (gl0:(List TQ)→((List (List TQ))×(List (List TQ)))→Option R31):List (LoE R31):=[⟨5,k31l0,fun s=>gl0 s.2.1 s.2.2.1⟩]
noncomputable def fes31 (c83:(List TQ)→(List (List (List TQ)))→Option R83) (c86:(List Int)→Option R86) (c107:(List TQ)→(List (List TQ))→(List (List TQ))→(List TQ)→Option R107) (c110:(List TQ)→(List (List TQ))→Option R110) (c111Gcd:((List (List TQ))×Unit)→Option R111Gcd):List FE:=[(fe83 c83),(fe86 c86),(fe107 c107),(fe110 c110),(fe111Gcd c111Gcd)]
section
variable (gl0:(List TQ)→((List (List TQ))×(List (List TQ)))→Option R31) (c83:(List TQ)→(List (List (List TQ)))→Option R83) (c86:(List Int)→Option R86) (c107:(List TQ)→(List (List TQ))→(List (List TQ))→(List TQ)→Option R107) (c110:(List TQ)→(List (List TQ))→Option R110) (c111Gcd:((List (List TQ))×Unit)→Option R111Gcd)
noncomputable def B31l0 (x3:(List TQ)) (x9:((List (List TQ))×(List (List TQ)))):Option R31:=if(x9.2.length:Int)>0 then((c110 x3 x9.2).bind fun r1=>(cnd ((!r1.2)) (some (([]:List (List TQ)),6)) ((c86 ([1]:List Int)).bind fun r2=>((c107 x3 x9.1 r1.1 r2).bind fun r3=>(gl0 x3 (r1.1,r3.2))))))else((c110 x3 x9.1).bind fun r4=>(cnd ((!r4.2)) (some (([]:List (List TQ)),6)) ((c111Gcd (r4.1,())).bind fun r5=>(some (r5.1,r5.2)))))
theorem e31l0 (s0:SbT ask31.bl) (s:k31l0.T):evPos E0 (orcOf (fes31 c83 c86 c107 c110 c111Gcd)) 66 an31 (loOf (les31 gl0)) (rk31 s0) (p31.getD 0 ⟨0,[], .skip⟩) (k31l0.mk' s)=B31l0 gl0 c86 c107 c110 c111Gcd s.2.1 s.2.2.1:=by kernel_rfl
noncomputable def B31 (x0:(List TQ)) (x1:(List (List TQ))) (x2:(List (List TQ))):Option R31:=(c83 x0 ([x1,x2]:List (List (List TQ)))).bind fun r1=>(if r1≠0 then(some (([]:List (List TQ)),r1))else(gl0 x0 (x1,x2)))
theorem e31 (s:ask31.T):evFn E0 (orcOf (fes31 c83 c86 c107 c110 c111Gcd)) an31 (loOf (les31 gl0)) 66 cd31 Tryz.f31.results.toList rm31 (ask31.mk' s) (decW rsk31 dec31)=B31 gl0 c83 s.1.1 s.1.2.1 s.1.2.2.1:=by kernel_rfl
end
noncomputable def an174:Ann:=⟨[],[],[]⟩
noncomputable def cd174:Code:=(Tryz.f174.body).getD .skip
noncomputable def rm174:List RM:=[.d (.li (.ag (.pr (.ag (.pr .bo .st)) .st)))]
noncomputable def les174:List (LoE R174):=[]
noncomputable def fes174:List FE:=[]
noncomputable def B174 (x0:(List (List TQ))) (x1:Int):Option R174:=if x1<(x0.length:Int)then(if 0≤x1 then(if x1<(x0.length:Int)then(some (rdOf ([]:List TQ) x0 x1))else(none))else(none))else(some ([]:List TQ))
theorem e174 (s:ask174.T):evFn E0 (orcOf (fes174)) an174 (loOf (les174)) 13 cd174 Tryz.f174.results.toList rm174 (ask174.mk' s) (decW rsk174 dec174)=B174 s.1.1 s.1.2.1:=by kernel_rfl
noncomputable def an126:Ann:=⟨[(3,[(0, .any),(1, .any),(5, .any),(14, .any),(15, .any)])],[],[]⟩
noncomputable def cd126:Code:=(Tryz.f126.body).getD .skip
noncomputable def p126:List Pos:=posns an126 [] cd126
noncomputable def rm126:List RM:=[.d (.li (.li (.ag (.pr (.ag (.pr .bo .st)) .st))))]
noncomputable def rk126 (s0:SbT ask126.bl):KX R126:=retK E0 Tryz.f126.results.toList rm126 (mkB ask126.bl s0) (decW rsk126 dec126)
noncomputable def k126l0:Sk:=⟨[(0, .d (.li (.li (.ag (.pr (.ag (.pr .bo .st)) .st))))),(1, .d (.li (.li (.ag (.pr (.ag (.pr .bo .st)) .st))))),(5, .f (.a (.ref 5))),(14, .d (.it .i64)),(15, .d (.it .i64))],[(5, .own (.li (.ag (.pr (.ag (.pr .bo .st)) .st))) true)]⟩
noncomputable def les126 (gl0:(List (List TQ))→(List (List TQ))→Int→Int→(List (List TQ))→Option R126):List (LoE R126):=[⟨3,k126l0,fun s=>gl0 s.1.1 s.1.2.1 s.1.2.2.1 s.1.2.2.2.1 s.2.1⟩]
noncomputable def fes126 (c90:(List TQ)→(List TQ)→Option R90) (c122:(List (List TQ))→Option R122) (c174:(List (List TQ))→Int→Option R174):List FE:=[(fe90 c90),(fe122 c122),(fe174 c174)]
section
variable (gl0:(List (List TQ))→(List (List TQ))→Int→Int→(List (List TQ))→Option R126) (c90:(List TQ)→(List TQ)→Option R90) (c122:(List (List TQ))→Option R122) (c174:(List (List TQ))→Int→Option R174)
noncomputable def B126l0 (x0:(List (List TQ))) (x1:(List (List TQ))) (x14:Int) (x15:Int) (x5:(List (List TQ))):Option R126:=if x15<x14 then((c174 x0 x15).bind fun r1=>((c174 x1 x15).bind fun r2=>((c90 r1 r2).bind fun r3=>(if 0≤x15 then(if x15<(x5.length:Int)then(gl0 x0 x1 x14 (wrap64 (x15+1)) (x5.set (x15:Int).toNat r3))else(none))else(none)))))else((c122 x5).bind fun r4=>(some r4))
theorem e126l0 (s0:SbT ask126.bl) (s:k126l0.T):evPos E0 (orcOf (fes126 c90 c122 c174)) 31 an126 (loOf (les126 gl0)) (rk126 s0) (p126.getD 0 ⟨0,[], .skip⟩) (k126l0.mk' s)=B126l0 gl0 c90 c122 c174 s.1.1 s.1.2.1 s.1.2.2.1 s.1.2.2.2.1 s.2.1:=by kernel_rfl
noncomputable def B126 (x0:(List (List TQ))) (x1:(List (List TQ))):Option R126:=if 0≤mx (x0.length:Int) (x1.length:Int)then(if mx (x0.length:Int) (x1.length:Int)≤mx (x0.length:Int) (x1.length:Int)then(if(mx (x0.length:Int) (x1.length:Int):Int).toNat≤11728124029610 then(gl0 x0 x1 ((List.replicate (mx (x0.length:Int) (x1.length:Int):Int).toNat ([]:List TQ)).length:Int) 0 (List.replicate (mx (x0.length:Int) (x1.length:Int):Int).toNat ([]:List TQ)))else(none))else(none))else(none)
theorem e126 (s:ask126.T):evFn E0 (orcOf (fes126 c90 c122 c174)) an126 (loOf (les126 gl0)) 31 cd126 Tryz.f126.results.toList rm126 (ask126.mk' s) (decW rsk126 dec126)=B126 gl0 s.1.1 s.1.2.1:=by kernel_rfl
end
noncomputable def an127:Ann:=⟨[(5,[(2, .any),(3, .any),(7, .any),(28, .any),(29, .any),(30, .any)]),(8,[(2, .any),(3, .any),(7, .any),(8, .any),(9, .any),(28, .any),(29, .any),(30, .any),(35, .any),(36, .any),(37, .any)]),(14,[(3, .any),(7, .any),(60, .any),(61, .any)])],[],[]⟩
noncomputable def cd127:Code:=(Tryz.f127.body).getD .skip
noncomputable def p127:List Pos:=posns an127 [] cd127
noncomputable def rm127:List RM:=[.d (.li (.li (.ag (.pr (.ag (.pr .bo .st)) .st))))]
noncomputable def rk127 (s0:SbT ask127.bl):KX R127:=retK E0 Tryz.f127.results.toList rm127 (mkB ask127.bl s0) (decW rsk127 dec127)
noncomputable def k127l0:Sk:=⟨[(2, .d (.li (.li (.ag (.pr (.ag (.pr .bo .st)) .st))))),(3, .f (.a (.ptr 3 0 []))),(7, .f (.a (.ref 7))),(28, .d (.li (.li (.ag (.pr (.ag (.pr .bo .st)) .st))))),(29, .d (.it .i64)),(30, .d (.it .i64))],[(3, .cell (.ag (.li (.ag (.pr (.ag (.pr .bo .st)) .st)))) true),(7, .own (.li (.ag (.pr (.ag (.pr .bo .st)) .st))) true)]⟩
noncomputable def k127l1:Sk:=⟨[(2, .d (.li (.li (.ag (.pr (.ag (.pr .bo .st)) .st))))),(3, .f (.a (.ptr 3 0 []))),(7, .f (.a (.ref 7))),(8, .d (.it .i64)),(9, .d (.li (.ag (.pr (.ag (.pr .bo .st)) .st)))),(28, .d (.li (.li (.ag (.pr (.ag (.pr .bo .st)) .st))))),(29, .d (.it .i64)),(30, .d (.it .i64)),(35, .d (.li (.li (.ag (.pr (.ag (.pr .bo .st)) .st))))),(36, .d (.it .i64)),(37, .d (.it .i64))],[(3, .cell (.ag (.li (.ag (.pr (.ag (.pr .bo .st)) .st)))) true),(7, .own (.li (.ag (.pr (.ag (.pr .bo .st)) .st))) true)]⟩
noncomputable def k127l2:Sk:=⟨[(3, .f (.a (.ptr 3 0 []))),(7, .f (.a (.ref 7))),(60, .d (.it .i64)),(61, .d (.it .i64))],[(3, .cell (.ag (.li (.ag (.pr (.ag (.pr .bo .st)) .st)))) true),(7, .own (.li (.ag (.pr (.ag (.pr .bo .st)) .st))) true)]⟩
noncomputable def les127 (gl0:(List (List TQ))→(List (List TQ))→Int→Int→(List TQ)→(List (List TQ))→Option R127) (gl1:(List (List TQ))→Int→(List TQ)→(List (List TQ))→Int→Int→(List (List TQ))→Int→Int→(List TQ)→(List (List TQ))→Option R127) (gl2:Int→Int→(List TQ)→(List (List TQ))→Option R127):List (LoE R127):=[⟨5,k127l0,fun s=>gl0 s.1.1 s.1.2.1 s.1.2.2.1 s.1.2.2.2.1 s.2.1 s.2.2.1⟩,⟨8,k127l1,fun s=>gl1 s.1.1 s.1.2.1 s.1.2.2.1 s.1.2.2.2.1 s.1.2.2.2.2.1 s.1.2.2.2.2.2.1 s.1.2.2.2.2.2.2.1 s.1.2.2.2.2.2.2.2.1 s.1.2.2.2.2.2.2.2.2.1 s.2.1 s.2.2.1⟩,⟨14,k127l2,fun s=>gl2 s.1.1 s.1.2.1 s.2.1 s.2.2.1⟩]
noncomputable def fes127 (c90:(List TQ)→(List TQ)→Option R90) (c91:(List TQ)→(List TQ)→Option R91) (c122:(List (List TQ))→Option R122) (c165:(List TQ)→(List TQ)→Option R165):List FE:=[(fe90 c90),(fe91 c91),(fe122 c122),(fe165 c165)]
section
variable (gl0:(List (List TQ))→(List (List TQ))→Int→Int→(List TQ)→(List (List TQ))→Option R127) (gl1:(List (List TQ))→Int→(List TQ)→(List (List TQ))→Int→Int→(List (List TQ))→Int→Int→(List TQ)→(List (List TQ))→Option R127) (gl2:Int→Int→(List TQ)→(List (List TQ))→Option R127) (c90:(List TQ)→(List TQ)→Option R90) (c91:(List TQ)→(List TQ)→Option R91) (c122:(List (List TQ))→Option R122) (c165:(List TQ)→(List TQ)→Option R165)
noncomputable def B127l0 (x2:(List (List TQ))) (x28:(List (List TQ))) (x29:Int) (x30:Int) (x3:(List TQ)) (x7:(List (List TQ))):Option R127:=if x30<x29 then(if 0≤x30 then(if x30<(x28.length:Int)then(gl1 x2 x30 (rdOf ([]:List TQ) x28 x30) x28 x29 x30 x2 (x2.length:Int) 0 x3 x7)else(none))else(none))else(gl2 (x7.length:Int) 0 x3 x7)
theorem e127l0 (s0:SbT ask127.bl) (s:k127l0.T):evPos E0 (orcOf (fes127 c90 c91 c122 c165)) 77 an127 (loOf (les127 gl0 gl1 gl2)) (rk127 s0) (p127.getD 0 ⟨0,[], .skip⟩) (k127l0.mk' s)=B127l0 gl1 gl2 s.1.1 s.1.2.1 s.1.2.2.1 s.1.2.2.2.1 s.2.1 s.2.2.1:=by kernel_rfl
noncomputable def B127l1 (x2:(List (List TQ))) (x8:Int) (x9:(List TQ)) (x28:(List (List TQ))) (x29:Int) (x30:Int) (x35:(List (List TQ))) (x36:Int) (x37:Int) (x3:(List TQ)) (x7:(List (List TQ))):Option R127:=if x37<x36 then(if 0≤x37 then(if x37<(x35.length:Int)then(if 0≤wrap64 (x8+x37)then(if wrap64 (x8+x37)<(x7.length:Int)then((c91 x9 (rdOf ([]:List TQ) x35 x37)).bind fun r1=>((c90 (rdOf ([]:List TQ) x7 (wrap64 (x8+x37))) r1).bind fun r2=>(if 0≤wrap64 (x8+x37)then(if wrap64 (x8+x37)<(x7.length:Int)then(gl1 x2 x8 x9 x28 x29 x30 x35 x36 (wrap64 (x37+1)) x3 (x7.set (wrap64 (x8+x37):Int).toNat r2))else(none))else(none))))else(none))else(none))else(none))else(none))else(gl0 x2 x28 x29 (wrap64 (x30+1)) x3 x7)
theorem e127l1 (s0:SbT ask127.bl) (s:k127l1.T):evPos E0 (orcOf (fes127 c90 c91 c122 c165)) 77 an127 (loOf (les127 gl0 gl1 gl2)) (rk127 s0) (p127.getD 1 ⟨0,[], .skip⟩) (k127l1.mk' s)=B127l1 gl0 gl1 c90 c91 s.1.1 s.1.2.1 s.1.2.2.1 s.1.2.2.2.1 s.1.2.2.2.2.1 s.1.2.2.2.2.2.1 s.1.2.2.2.2.2.2.1 s.1.2.2.2.2.2.2.2.1 s.1.2.2.2.2.2.2.2.2.1 s.2.1 s.2.2.1:=by kernel_rfl
noncomputable def B127l2 (x60:Int) (x61:Int) (x3:(List TQ)) (x7:(List (List TQ))):Option R127:=if x61<x60 then(if 0≤x61 then(if x61<(x7.length:Int)then((c165 x3 (rdOf ([]:List TQ) x7 x61)).bind fun r1=>(if 0≤x61 then(if x61<(x7.length:Int)then(gl2 x60 (wrap64 (x61+1)) x3 (x7.set (x61:Int).toNat r1))else(none))else(none)))else(none))else(none))else((c122 x7).bind fun r2=>(some r2))
theorem e127l2 (s0:SbT ask127.bl) (s:k127l2.T):evPos E0 (orcOf (fes127 c90 c91 c122 c165)) 77 an127 (loOf (les127 gl0 gl1 gl2)) (rk127 s0) (p127.getD 2 ⟨0,[], .skip⟩) (k127l2.mk' s)=B127l2 gl2 c122 c165 s.1.1 s.1.2.1 s.2.1 s.2.2.1:=by kernel_rfl
noncomputable def B127 (x0:(List TQ)) (x1:(List (List TQ))) (x2:(List (List TQ))):Option R127:=if(x1.length:Int)=0 then(some ([]:List (List TQ)))else(if(x2.length:Int)=0 then(some ([]:List (List TQ)))else(if 0≤wrap64 ((wrap64 ((x1.length:Int)+(x2.length:Int)))-1)then(if wrap64 ((wrap64 ((x1.length:Int)+(x2.length:Int)))-1)≤wrap64 ((wrap64 ((x1.length:Int)+(x2.length:Int)))-1)then(if(wrap64 ((wrap64 ((x1.length:Int)+(x2.length:Int)))-1):Int).toNat≤11728124029610 then(gl0 x2 x1 (x1.length:Int) 0 x0 (List.replicate (wrap64 ((wrap64 ((x1.length:Int)+(x2.length:Int)))-1):Int).toNat ([]:List TQ)))else(none))else(none))else(none)))
theorem e127 (s:ask127.T):evFn E0 (orcOf (fes127 c90 c91 c122 c165)) an127 (loOf (les127 gl0 gl1 gl2)) 77 cd127 Tryz.f127.results.toList rm127 (ask127.mk' s) (decW rsk127 dec127)=B127 gl0 s.1.1 s.1.2.1 s.1.2.2.1:=by kernel_rfl
end
noncomputable def an125:Ann:=⟨[(4,[(1, .any),(2, .any),(4, .val (.li (.li (.ag (.pr (.ag (.pr .bo .st)) .st))))),(5, .any),(6, .any)])],[],[]⟩
noncomputable def cd125:Code:=(Tryz.f125.body).getD .skip
noncomputable def p125:List Pos:=posns an125 [] cd125
noncomputable def rm125:List RM:=[.d (.li (.li (.ag (.pr (.ag (.pr .bo .st)) .st))))]
noncomputable def rk125 (s0:SbT ask125.bl):KX R125:=retK E0 Tryz.f125.results.toList rm125 (mkB ask125.bl s0) (decW rsk125 dec125)
noncomputable def k125l0:Sk:=⟨[(1, .pv (.li (.li (.ag (.pr (.ag (.pr .bo .st)) .st))))),(2, .pv (.ag (.li (.ag (.pr (.ag (.pr .bo .st)) .st))))),(4, .d (.li (.li (.ag (.pr (.ag (.pr .bo .st)) .st))))),(5, .d (.li (.li (.ag (.pr (.ag (.pr .bo .st)) .st))))),(6, .d (.it .i64))],[]⟩
noncomputable def les125 (gl0:(List (List TQ))→(List TQ)→(List (List TQ))→(List (List TQ))→Int→Option R125):List (LoE R125):=[⟨4,k125l0,fun s=>gl0 s.1.1 s.1.2.1 s.1.2.2.1 s.1.2.2.2.1 s.1.2.2.2.2.1⟩]
noncomputable def fes125 (c86:(List Int)→Option R86) (c122:(List (List TQ))→Option R122) (c126:(List (List TQ))→(List (List TQ))→Option R126) (c127:(List TQ)→(List (List TQ))→(List (List TQ))→Option R127):List FE:=[(fe86 c86),(fe122 c122),(fe126 c126),(fe127 c127)]
section
variable (gl0:(List (List TQ))→(List TQ)→(List (List TQ))→(List (List TQ))→Int→Option R125) (c86:(List Int)→Option R86) (c122:(List (List TQ))→Option R122) (c126:(List (List TQ))→(List (List TQ))→Option R126) (c127:(List TQ)→(List (List TQ))→(List (List TQ))→Option R127)
noncomputable def B125l0 (x1:(List (List TQ))) (x2:(List TQ)) (x4:(List (List TQ))) (x5:(List (List TQ))) (x6:Int):Option R125:=if x6≥0 then((c127 x2 x4 x5).bind fun r1=>(if 0≤x6 then(if x6<(x1.length:Int)then((c122 ([rdOf ([]:List TQ) x1 x6]:List (List TQ))).bind fun r2=>((c126 r1 r2).bind fun r3=>(gl0 x1 x2 r3 x5 (wrap64 (x6-1)))))else(none))else(none)))else(some x4)
theorem e125l0 (s0:SbT ask125.bl) (s:k125l0.T):evPos E0 (orcOf (fes125 c86 c122 c126 c127)) 31 an125 (loOf (les125 gl0)) (rk125 s0) (p125.getD 0 ⟨0,[], .skip⟩) (k125l0.mk' s)=B125l0 gl0 c122 c126 c127 s.1.1 s.1.2.1 s.1.2.2.1 s.1.2.2.2.1 s.1.2.2.2.2.1:=by kernel_rfl
noncomputable def B125 (x0:(List TQ)) (x1:(List (List TQ))) (x2:(List TQ)):Option R125:=(c86 ([1]:List Int)).bind fun r1=>((c122 ([x0,r1]:List (List TQ))).bind fun r2=>(gl0 x1 x2 ([]:List (List TQ)) r2 (wrap64 ((x1.length:Int)-1))))
theorem e125 (s:ask125.T):evFn E0 (orcOf (fes125 c86 c122 c126 c127)) an125 (loOf (les125 gl0)) 31 cd125 Tryz.f125.results.toList rm125 (ask125.mk' s) (decW rsk125 dec125)=B125 gl0 c86 c122 s.1.1 s.1.2.1 s.1.2.2.1:=by kernel_rfl
end
noncomputable def an111Shift:Ann:=⟨[],[],[]⟩
noncomputable def cd111Shift:Code:=(Tryz.f111.body).getD .skip
noncomputable def rm111Shift:List RM:=[.d (.li (.li (.ag (.pr (.ag (.pr .bo .st)) .st)))), .d (.it .i64)]
noncomputable def les111Shift:List (LoE R111Shift):=[]
noncomputable def fes111Shift (c108:(List (List TQ))→Option R108) (c125:(List TQ)→(List (List TQ))→(List TQ)→Option R125):List FE:=[(fe108 c108),(fe125 c125)]
section
variable (c108:(List (List TQ))→Option R108) (c125:(List TQ)→(List (List TQ))→(List TQ)→Option R125)
noncomputable def B111Shift (x0:((List TQ)×(List (List TQ))×(List TQ)×Unit)):Option R111Shift:=(c125 x0.1 x0.2.1 x0.2.2.1).bind fun r1=>((c108 r1).bind fun r2=>(cnd (r2) (some (([]:List (List TQ)),4)) (some (r1,0))))
theorem e111Shift (s:ask111Shift.T):evFn E0 (orcOf (fes111Shift c108 c125)) an111Shift (loOf (les111Shift)) 10 cd111Shift Tryz.f111.results.toList rm111Shift (ask111Shift.mk' s) (decW rsk111Shift dec111Shift)=B111Shift c108 c125 s.1.1:=by kernel_rfl
end
noncomputable def an50:Ann:=⟨[],[],[]⟩
noncomputable def cd50:Code:=(Tryz.f50.body).getD .skip
noncomputable def rm50:List RM:=[.d (.li (.li (.ag (.pr (.ag (.pr .bo .st)) .st)))), .d (.it .i64)]
noncomputable def les50:List (LoE R50):=[]
noncomputable def fes50 (c83:(List TQ)→(List (List (List TQ)))→Option R83) (c111Shift:((List TQ)×(List (List TQ))×(List TQ)×Unit)→Option R111Shift) (c124:(List TQ)→(List TQ)→Option R124):List FE:=[(fe83 c83),(fe111Shift c111Shift),(fe124 c124)]
section
variable (c83:(List TQ)→(List (List (List TQ)))→Option R83) (c111Shift:((List TQ)×(List (List TQ))×(List TQ)×Unit)→Option R111Shift) (c124:(List TQ)→(List TQ)→Option R124)
noncomputable def B50 (x0:(List TQ)) (x1:(List (List TQ))) (x2:(List TQ)):Option R50:=(c83 x0 ([x1]:List (List (List TQ)))).bind fun r1=>(if r1≠0 then(some (([]:List (List TQ)),r1))else((c124 x0 x2).bind fun r2=>(if r2≠0 then(some (([]:List (List TQ)),r2))else((c111Shift (x2,x1,x0,())).bind fun r3=>(some (r3.1,r3.2))))))
theorem e50 (s:ask50.T):evFn E0 (orcOf (fes50 c83 c111Shift c124)) an50 (loOf (les50)) 27 cd50 Tryz.f50.results.toList rm50 (ask50.mk' s) (decW rsk50 dec50)=B50 c83 c111Shift c124 s.1.1 s.1.2.1 s.1.2.2.1:=by kernel_rfl
end
noncomputable def an16:Ann:=⟨[],[],[]⟩
noncomputable def cd16:Code:=(Tryz.f16.body).getD .skip
noncomputable def rm16:List RM:=[.d .bo]
noncomputable def les16:List (LoE R16):=[]
noncomputable def fes16 (c17:(List TQ)→(List (List TQ))→Option R17) (c18:(List TQ)→(List TQ)→Option R18) (c22:(List Int)→Option R22) (c28:(List TQ)→(List (List TQ))→(List (List TQ))→Option R28) (c29:(List (List TQ))→(List (List TQ))→Option R29) (c31:(List TQ)→(List (List TQ))→(List (List TQ))→Option R31) (c50:(List TQ)→(List (List TQ))→(List TQ)→Option R50):List FE:=[(fe17 c17),(fe18 c18),(fe22 c22),(fe28 c28),(fe29 c29),(fe31 c31),(fe50 c50)]
section
variable (c17:(List TQ)→(List (List TQ))→Option R17) (c18:(List TQ)→(List TQ)→Option R18) (c22:(List Int)→Option R22) (c28:(List TQ)→(List (List TQ))→(List (List TQ))→Option R28) (c29:(List (List TQ))→(List (List TQ))→Option R29) (c31:(List TQ)→(List (List TQ))→(List (List TQ))→Option R31) (c50:(List TQ)→(List (List TQ))→(List TQ)→Option R50)
noncomputable def B16:Option R16:=(c22 ([(-2),0,1]:List Int)).bind fun r1=>((c22 ([0,1]:List Int)).bind fun r2=>((c22 ([1]:List Int)).bind fun r3=>((c22 ([(-2)]:List Int)).bind fun r4=>((c22 ([0,(-1)]:List Int)).bind fun r5=>((c28 r1 ([r4,([]:List TQ),r3]:List (List TQ)) ([r5,r3]:List (List TQ))).bind fun r6=>((c22 ([(-2)]:List Int)).bind fun r7=>((c22 ([2]:List Int)).bind fun r8=>((c22 ([0,(-2)]:List Int)).bind fun r9=>((c31 r1 ([r7,([]:List TQ),r3]:List (List TQ)) ([r8,r9,r3]:List (List TQ))).bind fun r10=>((c22 ([0,(-1)]:List Int)).bind fun r11=>((c17 r1 ([r11,r3]:List (List TQ))).bind fun r12=>((c17 r1 ([r2,([]:List TQ),r3]:List (List TQ))).bind fun r13=>((c17 r1 ([r3,r2]:List (List TQ))).bind fun r14=>((c50 r1 ([([]:List TQ),([]:List TQ),r3]:List (List TQ)) r2).bind fun r15=>(if wrap64 ((wrap64 ((wrap64 ((wrap64 ((wrap64 (r6.2.2+r10.2))+r12.2))+r13.2))+r14.2))+r15.2)≠0 then(some false)else(if(r6.2.1.length:Int)>0 then(some false)else((c29 r6.1 ([r2,r3]:List (List TQ))).bind fun r16=>(cnd ((!r16)) (some false) ((c22 ([0,(-1)]:List Int)).bind fun r17=>((c29 r10.1 ([r17,r3]:List (List TQ))).bind fun r18=>(cnd ((!r18)) (some false) ((c22 ([(-2),0,1]:List Int)).bind fun r19=>((c18 r12.1 r19).bind fun r20=>(cnd (r20) ((c22 ([(-2),0,0,0,1]:List Int)).bind fun r21=>((c18 r13.1 r21).bind fun r22=>(cnd (r22) ((c22 ([1,0,(-2)]:List Int)).bind fun r23=>((c18 r14.1 r23).bind fun r24=>(cnd (r24) ((c22 ([2]:List Int)).bind fun r25=>((c22 ([0,2]:List Int)).bind fun r26=>((c29 r15.1 ([r25,r26,r3]:List (List TQ))).bind fun r27=>(some r27)))) (some false)))) (some false)))) (some false)))))))))))))))))))))))))
theorem e16 (s:ask16.T):evFn E0 (orcOf (fes16 c17 c18 c22 c28 c29 c31 c50)) an16 (loOf (les16)) 146 cd16 Tryz.f16.results.toList rm16 (ask16.mk' s) (decW rsk16 dec16)=B16 c17 c18 c22 c28 c29 c31 c50:=by kernel_rfl
end
noncomputable def an159:Ann:=⟨[],[],[]⟩
noncomputable def cd159:Code:=(Tryz.f159.body).getD .skip
noncomputable def rm159:List RM:=[.d (.ag (.pr (.ag (.pr .bo .st)) .st))]
noncomputable def les159:List (LoE R159):=[]
noncomputable def fes159:List FE:=[]
noncomputable def B159 (x0:TI):Option R159:=some (x0,(⟨#[1]⟩:ByteArray))
theorem e159 (s:ask159.T):evFn E0 (orcOf (fes159)) an159 (loOf (les159)) 5 cd159 Tryz.f159.results.toList rm159 (ask159.mk' s) (decW rsk159 dec159)=B159 s.1.1:=by kernel_rfl
noncomputable def an198:Ann:=⟨[],[],[]⟩
noncomputable def cd198:Code:=(Tryz.f198.body).getD .skip
noncomputable def rm198:List RM:=[.d (.ag (.pr .bo .st))]
noncomputable def les198:List (LoE R198):=[]
noncomputable def fes198:List FE:=[]
noncomputable def B198 (x0:Bool) (x1:ByteArray):Option R198:=cnd (x0) (some ((!(eqS x1 (⟨#[]⟩:ByteArray))),x1)) (some (false,x1))
theorem e198 (s:ask198.T):evFn E0 (orcOf (fes198)) an198 (loOf (les198)) 12 cd198 Tryz.f198.results.toList rm198 (ask198.mk' s) (decW rsk198 dec198)=B198 s.1.1 s.1.2.1:=by kernel_rfl
noncomputable def an249:Ann:=⟨[(1,[(0, .pt)])],[],[]⟩
noncomputable def cd249:Code:=(Tryz.f249.body).getD .skip
noncomputable def p249:List Pos:=posns an249 [] cd249
noncomputable def rm249:List RM:=[.sh]
noncomputable def rk249 (s0:SbT ask249.bl):KX R249:=retK E0 Tryz.f249.results.toList rm249 (mkB ask249.bl s0) (decW rsk249 dec249)
noncomputable def k249l0:Sk:=⟨[(0, .pre 2000)],[(2000, .own (.it .u64) false)]⟩
noncomputable def les249 (gl0:Int→(List Int)→Option R249):List (LoE R249):=[⟨1,k249l0,fun s=>gl0 s.1.1 s.2.1⟩]
noncomputable def fes249:List FE:=[]
section
variable (gl0:Int→(List Int)→Option R249)
noncomputable def B249l0 (x0:Int) (y0:(List Int)):Option R249:=if x0-0>0 then(if 0≤wrap64 ((x0-0)-1)then(if wrap64 ((x0-0)-1)<x0-0 then(if rd y0 (0+(wrap64 ((x0-0)-1)))=0 then(if(0:Int)≤0 then(if 0≤wrap64 ((x0-0)-1)then(if wrap64 ((x0-0)-1)≤x0-0 then(if x0-0≤x0-0 then(gl0 (0+(wrap64 ((x0-0)-1))) y0)else(none))else(none))else(none))else(none))else(some (x0,y0)))else(none))else(none))else(some (x0,y0))
theorem e249l0 (s0:SbT ask249.bl) (s:k249l0.T):evPos E0 (orcOf (fes249)) 21 an249 (loOf (les249 gl0)) (rk249 s0) (p249.getD 0 ⟨0,[], .skip⟩) (k249l0.mk' s)=B249l0 gl0 s.1.1 s.2.1:=by kernel_rfl
noncomputable def B249 (y0:(List Int)):Option R249:=gl0 (y0.length:Int) y0
theorem e249 (s:ask249.T):evFn E0 (orcOf (fes249)) an249 (loOf (les249 gl0)) 21 cd249 Tryz.f249.results.toList rm249 (ask249.mk' s) (decW rsk249 dec249)=B249 gl0 s.2.1:=by kernel_rfl
end
noncomputable def an229:Ann:=⟨[(3,[(0, .any),(3, .own (.it .u64)),(4, .any)]),(7,[(0, .any),(3, .any),(4, .any),(5, .any),(6, .any)])],[],[]⟩
noncomputable def cd229:Code:=(Tryz.f229.body).getD .skip
noncomputable def p229:List Pos:=posns an229 [] cd229
noncomputable def rm229:List RM:=[.own (.it .u64)]
noncomputable def rk229 (s0:SbT ask229.bl):KX R229:=retK E0 Tryz.f229.results.toList rm229 (mkB ask229.bl s0) (decW rsk229 dec229)
noncomputable def k229l0:Sk:=⟨[(0, .d .st),(3, .f (.a (.ref 3))),(4, .d (.it .i64))],[(3, .own (.it .u64) true)]⟩
noncomputable def k229l1:Sk:=⟨[(0, .d .st),(3, .f (.a (.ref 3))),(4, .d (.it .i64)),(5, .d (.it .u64)),(6, .d (.it .i64))],[(3, .own (.it .u64) true)]⟩
noncomputable def les229 (gl0:ByteArray→Int→(List Int)→Option R229) (gl1:ByteArray→Int→Int→Int→(List Int)→Option R229):List (LoE R229):=[⟨3,k229l0,fun s=>gl0 s.1.1 s.1.2.1 s.2.1⟩,⟨7,k229l1,fun s=>gl1 s.1.1 s.1.2.1 s.1.2.2.1 s.1.2.2.2.1 s.2.1⟩]
noncomputable def fes229 (c249:(List Int)→Option R249):List FE:=[(fe249 c249)]
section
variable (gl0:ByteArray→Int→(List Int)→Option R229) (gl1:ByteArray→Int→Int→Int→(List Int)→Option R229) (c249:(List Int)→Option R249)
noncomputable def B229l0 (x0:ByteArray) (x4:Int) (x3:(List Int)):Option R229:=if x4>0 then(gl1 x0 x4 0 (mx 0 (wrap64 (x4-4))) x3)else((c249 x3).bind fun r1=>(some (r1.2.take (r1.1:Int).toNat)))
theorem e229l0 (s0:SbT ask229.bl) (s:k229l0.T):evPos E0 (orcOf (fes229 c249)) 34 an229 (loOf (les229 gl0 gl1)) (rk229 s0) (p229.getD 0 ⟨0,[], .skip⟩) (k229l0.mk' s)=B229l0 gl1 c249 s.1.1 s.1.2.1 s.2.1:=by kernel_rfl
noncomputable def B229l1 (x0:ByteArray) (x4:Int) (x5:Int) (x6:Int) (x3:(List Int)):Option R229:=if x6<x4 then(if 0≤x6 then(if x6<(x0.size:Int)then(gl1 x0 x4 (IntKind.u64.wrap ((IntKind.u64.wrap (x5*256))+(IntKind.u64.wrap (bt x0 x6)))) (wrap64 (x6+1)) x3)else(none))else(none))else(if(x3.length+1)*8≤140737488355328 then(gl0 x0 (wrap64 (x4-4)) (x3++([x5]:List Int)))else(none))
theorem e229l1 (s0:SbT ask229.bl) (s:k229l1.T):evPos E0 (orcOf (fes229 c249)) 34 an229 (loOf (les229 gl0 gl1)) (rk229 s0) (p229.getD 1 ⟨0,[], .skip⟩) (k229l1.mk' s)=B229l1 gl0 gl1 s.1.1 s.1.2.1 s.1.2.2.1 s.1.2.2.2.1 s.2.1:=by kernel_rfl
noncomputable def B229 (x0:ByteArray):Option R229:=gl0 x0 (x0.size:Int) ([]:List Int)
theorem e229 (s:ask229.T):evFn E0 (orcOf (fes229 c249)) an229 (loOf (les229 gl0 gl1)) 34 cd229 Tryz.f229.results.toList rm229 (ask229.mk' s) (decW rsk229 dec229)=B229 gl0 s.1.1:=by kernel_rfl
end
noncomputable def an199:Ann:=⟨[(5,[(5, .any),(6, .any),(7, .own (.it .u64)),(8, .any),(9, .any)])],[],[]⟩
noncomputable def cd199:Code:=(Tryz.f199.body).getD .skip
noncomputable def p199:List Pos:=posns an199 [] cd199
noncomputable def rm199:List RM:=[.d .st]
noncomputable def rk199 (s0:SbT ask199.bl):KX R199:=retK E0 Tryz.f199.results.toList rm199 (mkB ask199.bl s0) (decW rsk199 dec199)
noncomputable def k199l0:Sk:=⟨[(5, .f (.a (.ref 5))),(6, .f (.a (.ref 6))),(7, .f (.a (.ref 7))),(8, .d (.it .u64)),(9, .d (.it .i64))],[(5, .own (.it .u64) true),(6, .own (.it .u64) true),(7, .own (.it .u64) true)]⟩
noncomputable def les199 (gl0:Int→Int→(List Int)→(List Int)→(List Int)→Option R199):List (LoE R199):=[⟨5,k199l0,fun s=>gl0 s.1.1 s.1.2.1 s.2.1 s.2.2.1 s.2.2.2.1⟩]
noncomputable def fes199 (c221:(List Int)→Option R221) (c229:ByteArray→Option R229):List FE:=[(fe221 c221),(fe229 c229)]
section
variable (gl0:Int→Int→(List Int)→(List Int)→(List Int)→Option R199) (c221:(List Int)→Option R221) (c229:ByteArray→Option R229)
noncomputable def B199l0 (x8:Int) (x9:Int) (x5:(List Int)) (x6:(List Int)) (x7:(List Int)):Option R199:=if x9<(x5.length:Int)then(if x9<(x5.length:Int)then(if 0≤x9 then(if x9<(x5.length:Int)then(if x9<(x6.length:Int)then(if 0≤x9 then(if x9<(x6.length:Int)then(if(x7.length+1)*8≤140737488355328 then(if(0:Int)≤32 then(gl0 ((IntKind.u64.wrap ((IntKind.u64.wrap (x8+(rd x5 x9)))+(rd x6 x9)))/4294967296) (wrap64 (x9+1)) x5 x6 (x7++([Go.bits .and .u64 (IntKind.u64.wrap ((IntKind.u64.wrap (x8+(rd x5 x9)))+(rd x6 x9))) 4294967295]:List Int)))else(none))else(none))else(none))else(none))else(if(x7.length+1)*8≤140737488355328 then(if(0:Int)≤32 then(gl0 ((IntKind.u64.wrap (x8+(rd x5 x9)))/4294967296) (wrap64 (x9+1)) x5 x6 (x7++([Go.bits .and .u64 (IntKind.u64.wrap (x8+(rd x5 x9))) 4294967295]:List Int)))else(none))else(none)))else(none))else(none))else(if x9<(x6.length:Int)then(if 0≤x9 then(if x9<(x6.length:Int)then(if(x7.length+1)*8≤140737488355328 then(if(0:Int)≤32 then(gl0 ((IntKind.u64.wrap (x8+(rd x6 x9)))/4294967296) (wrap64 (x9+1)) x5 x6 (x7++([Go.bits .and .u64 (IntKind.u64.wrap (x8+(rd x6 x9))) 4294967295]:List Int)))else(none))else(none))else(none))else(none))else(if(x7.length+1)*8≤140737488355328 then(if(0:Int)≤32 then(gl0 (x8/4294967296) (wrap64 (x9+1)) x5 x6 (x7++([Go.bits .and .u64 x8 4294967295]:List Int)))else(none))else(none))))else(if x9<(x6.length:Int)then(if x9<(x5.length:Int)then(if 0≤x9 then(if x9<(x5.length:Int)then(if x9<(x6.length:Int)then(if 0≤x9 then(if x9<(x6.length:Int)then(if(x7.length+1)*8≤140737488355328 then(if(0:Int)≤32 then(gl0 ((IntKind.u64.wrap ((IntKind.u64.wrap (x8+(rd x5 x9)))+(rd x6 x9)))/4294967296) (wrap64 (x9+1)) x5 x6 (x7++([Go.bits .and .u64 (IntKind.u64.wrap ((IntKind.u64.wrap (x8+(rd x5 x9)))+(rd x6 x9))) 4294967295]:List Int)))else(none))else(none))else(none))else(none))else(if(x7.length+1)*8≤140737488355328 then(if(0:Int)≤32 then(gl0 ((IntKind.u64.wrap (x8+(rd x5 x9)))/4294967296) (wrap64 (x9+1)) x5 x6 (x7++([Go.bits .and .u64 (IntKind.u64.wrap (x8+(rd x5 x9))) 4294967295]:List Int)))else(none))else(none)))else(none))else(none))else(if x9<(x6.length:Int)then(if 0≤x9 then(if x9<(x6.length:Int)then(if(x7.length+1)*8≤140737488355328 then(if(0:Int)≤32 then(gl0 ((IntKind.u64.wrap (x8+(rd x6 x9)))/4294967296) (wrap64 (x9+1)) x5 x6 (x7++([Go.bits .and .u64 (IntKind.u64.wrap (x8+(rd x6 x9))) 4294967295]:List Int)))else(none))else(none))else(none))else(none))else(if(x7.length+1)*8≤140737488355328 then(if(0:Int)≤32 then(gl0 (x8/4294967296) (wrap64 (x9+1)) x5 x6 (x7++([Go.bits .and .u64 x8 4294967295]:List Int)))else(none))else(none))))else(if x8>0 then(if x9<(x5.length:Int)then(if 0≤x9 then(if x9<(x5.length:Int)then(if x9<(x6.length:Int)then(if 0≤x9 then(if x9<(x6.length:Int)then(if(x7.length+1)*8≤140737488355328 then(if(0:Int)≤32 then(gl0 ((IntKind.u64.wrap ((IntKind.u64.wrap (x8+(rd x5 x9)))+(rd x6 x9)))/4294967296) (wrap64 (x9+1)) x5 x6 (x7++([Go.bits .and .u64 (IntKind.u64.wrap ((IntKind.u64.wrap (x8+(rd x5 x9)))+(rd x6 x9))) 4294967295]:List Int)))else(none))else(none))else(none))else(none))else(if(x7.length+1)*8≤140737488355328 then(if(0:Int)≤32 then(gl0 ((IntKind.u64.wrap (x8+(rd x5 x9)))/4294967296) (wrap64 (x9+1)) x5 x6 (x7++([Go.bits .and .u64 (IntKind.u64.wrap (x8+(rd x5 x9))) 4294967295]:List Int)))else(none))else(none)))else(none))else(none))else(if x9<(x6.length:Int)then(if 0≤x9 then(if x9<(x6.length:Int)then(if(x7.length+1)*8≤140737488355328 then(if(0:Int)≤32 then(gl0 ((IntKind.u64.wrap (x8+(rd x6 x9)))/4294967296) (wrap64 (x9+1)) x5 x6 (x7++([Go.bits .and .u64 (IntKind.u64.wrap (x8+(rd x6 x9))) 4294967295]:List Int)))else(none))else(none))else(none))else(none))else(if(x7.length+1)*8≤140737488355328 then(if(0:Int)≤32 then(gl0 (x8/4294967296) (wrap64 (x9+1)) x5 x6 (x7++([Go.bits .and .u64 x8 4294967295]:List Int)))else(none))else(none))))else((c221 x7).bind fun r1=>(some r1))))
theorem e199l0 (s0:SbT ask199.bl) (s:k199l0.T):evPos E0 (orcOf (fes199 c221 c229)) 61 an199 (loOf (les199 gl0)) (rk199 s0) (p199.getD 0 ⟨0,[], .skip⟩) (k199l0.mk' s)=B199l0 gl0 c221 s.1.1 s.1.2.1 s.2.1 s.2.2.1 s.2.2.2.1:=by kernel_rfl
noncomputable def B199 (x0:ByteArray) (x1:ByteArray):Option R199:=(c229 x0).bind fun r1=>((c229 x1).bind fun r2=>(gl0 0 0 r1 r2 ([]:List Int)))
theorem e199 (s:ask199.T):evFn E0 (orcOf (fes199 c221 c229)) an199 (loOf (les199 gl0)) 61 cd199 Tryz.f199.results.toList rm199 (ask199.mk' s) (decW rsk199 dec199)=B199 gl0 c229 s.1.1 s.1.2.1:=by kernel_rfl
end
noncomputable def an200:Ann:=⟨[],[],[]⟩
noncomputable def cd200:Code:=(Tryz.f200.body).getD .skip
noncomputable def rm200:List RM:=[.d (.it .i64)]
noncomputable def les200:List (LoE R200):=[]
noncomputable def fes200:List FE:=[]
noncomputable def B200 (x0:ByteArray) (x1:ByteArray):Option R200:=if(x0.size:Int)<(x1.size:Int)then(some (-1))else(if(x0.size:Int)=(x1.size:Int)then(cnd ((Op.bytesLess x0.toList x1.toList)) (some (-1)) (cnd ((eqS x0 x1)) (some 0) (some 1)))else(cnd ((eqS x0 x1)) (some 0) (some 1)))
theorem e200 (s:ask200.T):evFn E0 (orcOf (fes200)) an200 (loOf (les200)) 27 cd200 Tryz.f200.results.toList rm200 (ask200.mk' s) (decW rsk200 dec200)=B200 s.1.1 s.1.2.1:=by kernel_rfl
noncomputable def an201:Ann:=⟨[(6,[(5, .any),(6, .any),(7, .any),(8, .any)])],[],[]⟩
noncomputable def cd201:Code:=(Tryz.f201.body).getD .skip
noncomputable def p201:List Pos:=posns an201 [] cd201
noncomputable def rm201:List RM:=[.d .st]
noncomputable def rk201 (s0:SbT ask201.bl):KX R201:=retK E0 Tryz.f201.results.toList rm201 (mkB ask201.bl s0) (decW rsk201 dec201)
noncomputable def k201l0:Sk:=⟨[(5, .f (.a (.ref 5))),(6, .f (.a (.ref 6))),(7, .d (.it .u64)),(8, .d (.it .i64))],[(5, .own (.it .u64) true),(6, .own (.it .u64) true)]⟩
noncomputable def les201 (gl0:Int→Int→(List Int)→(List Int)→Option R201):List (LoE R201):=[⟨6,k201l0,fun s=>gl0 s.1.1 s.1.2.1 s.2.1 s.2.2.1⟩]
noncomputable def fes201 (c200:ByteArray→ByteArray→Option R200) (c221:(List Int)→Option R221) (c229:ByteArray→Option R229):List FE:=[(fe200 c200),(fe221 c221),(fe229 c229)]
section
variable (gl0:Int→Int→(List Int)→(List Int)→Option R201) (c200:ByteArray→ByteArray→Option R200) (c221:(List Int)→Option R221) (c229:ByteArray→Option R229)
noncomputable def B201l0 (x7:Int) (x8:Int) (x5:(List Int)) (x6:(List Int)):Option R201:=if x8<(x5.length:Int)then(if x8<(x6.length:Int)then(if 0≤x8 then(if x8<(x6.length:Int)then(if 0≤x8 then(if x8<(x5.length:Int)then(if rd x5 x8<IntKind.u64.wrap (x7+(rd x6 x8))then(if 0≤x8 then(if x8<(x5.length:Int)then(if 0≤x8 then(if x8<(x5.length:Int)then(if 0≤x8 then(if x8<((x5.set (x8:Int).toNat (IntKind.u64.wrap ((rd x5 x8)+4294967296))).length:Int)then(if 0≤x8 then(if x8<((x5.set (x8:Int).toNat (IntKind.u64.wrap ((rd x5 x8)+4294967296))).length:Int)then(gl0 1 (wrap64 (x8+1)) ((x5.set (x8:Int).toNat (IntKind.u64.wrap ((rd x5 x8)+4294967296))).set (x8:Int).toNat (IntKind.u64.wrap ((rd (x5.set (x8:Int).toNat (IntKind.u64.wrap ((rd x5 x8)+4294967296))) x8)-(IntKind.u64.wrap (x7+(rd x6 x8)))))) x6)else(none))else(none))else(none))else(none))else(none))else(none))else(none))else(none))else(if 0≤x8 then(if x8<(x5.length:Int)then(if 0≤x8 then(if x8<(x5.length:Int)then(gl0 0 (wrap64 (x8+1)) (x5.set (x8:Int).toNat (IntKind.u64.wrap ((rd x5 x8)-(IntKind.u64.wrap (x7+(rd x6 x8)))))) x6)else(none))else(none))else(none))else(none)))else(none))else(none))else(none))else(none))else(if 0≤x8 then(if x8<(x5.length:Int)then(if rd x5 x8<x7 then(if 0≤x8 then(if x8<(x5.length:Int)then(if 0≤x8 then(if x8<(x5.length:Int)then(if 0≤x8 then(if x8<((x5.set (x8:Int).toNat (IntKind.u64.wrap ((rd x5 x8)+4294967296))).length:Int)then(if 0≤x8 then(if x8<((x5.set (x8:Int).toNat (IntKind.u64.wrap ((rd x5 x8)+4294967296))).length:Int)then(gl0 1 (wrap64 (x8+1)) ((x5.set (x8:Int).toNat (IntKind.u64.wrap ((rd x5 x8)+4294967296))).set (x8:Int).toNat (IntKind.u64.wrap ((rd (x5.set (x8:Int).toNat (IntKind.u64.wrap ((rd x5 x8)+4294967296))) x8)-x7))) x6)else(none))else(none))else(none))else(none))else(none))else(none))else(none))else(none))else(if 0≤x8 then(if x8<(x5.length:Int)then(if 0≤x8 then(if x8<(x5.length:Int)then(gl0 0 (wrap64 (x8+1)) (x5.set (x8:Int).toNat (IntKind.u64.wrap ((rd x5 x8)-x7))) x6)else(none))else(none))else(none))else(none)))else(none))else(none)))else((c221 x5).bind fun r1=>(some r1))
theorem e201l0 (s0:SbT ask201.bl) (s:k201l0.T):evPos E0 (orcOf (fes201 c200 c221 c229)) 60 an201 (loOf (les201 gl0)) (rk201 s0) (p201.getD 0 ⟨0,[], .skip⟩) (k201l0.mk' s)=B201l0 gl0 c221 s.1.1 s.1.2.1 s.2.1 s.2.2.1:=by kernel_rfl
noncomputable def B201 (x0:ByteArray) (x1:ByteArray):Option R201:=(c200 x0 x1).bind fun r1=>(if r1<0 then(some (⟨#[]⟩:ByteArray))else((c229 x0).bind fun r2=>((c229 x1).bind fun r3=>(gl0 0 0 r2 r3))))
theorem e201 (s:ask201.T):evFn E0 (orcOf (fes201 c200 c221 c229)) an201 (loOf (les201 gl0)) 60 cd201 Tryz.f201.results.toList rm201 (ask201.mk' s) (decW rsk201 dec201)=B201 gl0 c200 c229 s.1.1 s.1.2.1:=by kernel_rfl
end
noncomputable def an160:Ann:=⟨[],[],[]⟩
noncomputable def cd160:Code:=(Tryz.f160.body).getD .skip
noncomputable def rm160:List RM:=[.d (.ag (.pr .bo .st))]
noncomputable def les160:List (LoE R160):=[]
noncomputable def fes160 (c198:Bool→ByteArray→Option R198) (c199:ByteArray→ByteArray→Option R199) (c200:ByteArray→ByteArray→Option R200) (c201:ByteArray→ByteArray→Option R201):List FE:=[(fe198 c198),(fe199 c199),(fe200 c200),(fe201 c201)]
section
variable (c198:Bool→ByteArray→Option R198) (c199:ByteArray→ByteArray→Option R199) (c200:ByteArray→ByteArray→Option R200) (c201:ByteArray→ByteArray→Option R201)
noncomputable def B160 (x0:TI) (x1:TI):Option R160:=cnd ((x0.1==x1.1)) ((c199 x0.2 x1.2).bind fun r1=>((c198 x0.1 r1).bind fun r2=>(some (r2.1,r2.2)))) ((c200 x0.2 x1.2).bind fun r3=>(if r3≥0 then((c201 x0.2 x1.2).bind fun r4=>((c198 x0.1 r4).bind fun r5=>(some (r5.1,r5.2))))else((c201 x1.2 x0.2).bind fun r6=>((c198 x1.1 r6).bind fun r7=>(some (r7.1,r7.2))))))
theorem e160 (s:ask160.T):evFn E0 (orcOf (fes160 c198 c199 c200 c201)) an160 (loOf (les160)) 40 cd160 Tryz.f160.results.toList rm160 (ask160.mk' s) (decW rsk160 dec160)=B160 c198 c199 c200 c201 s.1.1 s.1.2.1:=by kernel_rfl
end
noncomputable def an202:Ann:=⟨[(4,[(5, .any),(6, .any),(7, .any),(8, .any)]),(8,[(5, .any),(6, .any),(7, .any),(8, .any),(9, .any),(10, .any)])],[],[]⟩
noncomputable def cd202:Code:=(Tryz.f202.body).getD .skip
noncomputable def p202:List Pos:=posns an202 [] cd202
noncomputable def rm202:List RM:=[.d .st]
noncomputable def rk202 (s0:SbT ask202.bl):KX R202:=retK E0 Tryz.f202.results.toList rm202 (mkB ask202.bl s0) (decW rsk202 dec202)
noncomputable def k202l0:Sk:=⟨[(5, .f (.a (.ref 5))),(6, .f (.a (.ref 6))),(7, .f (.a (.ref 7))),(8, .d (.it .i64))],[(5, .own (.it .u64) true),(6, .own (.it .u64) true),(7, .own (.it .u64) true)]⟩
noncomputable def k202l1:Sk:=⟨[(5, .f (.a (.ref 5))),(6, .f (.a (.ref 6))),(7, .f (.a (.ref 7))),(8, .d (.it .i64)),(9, .d (.it .u64)),(10, .d (.it .i64))],[(5, .own (.it .u64) true),(6, .own (.it .u64) true),(7, .own (.it .u64) true)]⟩
noncomputable def les202 (gl0:Int→(List Int)→(List Int)→(List Int)→Option R202) (gl1:Int→Int→Int→(List Int)→(List Int)→(List Int)→Option R202):List (LoE R202):=[⟨4,k202l0,fun s=>gl0 s.1.1 s.2.1 s.2.2.1 s.2.2.2.1⟩,⟨8,k202l1,fun s=>gl1 s.1.1 s.1.2.1 s.1.2.2.1 s.2.1 s.2.2.1 s.2.2.2.1⟩]
noncomputable def fes202 (c221:(List Int)→Option R221) (c229:ByteArray→Option R229):List FE:=[(fe221 c221),(fe229 c229)]
section
variable (gl0:Int→(List Int)→(List Int)→(List Int)→Option R202) (gl1:Int→Int→Int→(List Int)→(List Int)→(List Int)→Option R202) (c221:(List Int)→Option R221) (c229:ByteArray→Option R229)
noncomputable def B202l0 (x8:Int) (x5:(List Int)) (x6:(List Int)) (x7:(List Int)):Option R202:=if x8<(x5.length:Int)then(gl1 x8 0 0 x5 x6 x7)else((c221 x7).bind fun r1=>(some r1))
theorem e202l0 (s0:SbT ask202.bl) (s:k202l0.T):evPos E0 (orcOf (fes202 c221 c229)) 70 an202 (loOf (les202 gl0 gl1)) (rk202 s0) (p202.getD 0 ⟨0,[], .skip⟩) (k202l0.mk' s)=B202l0 gl1 c221 s.1.1 s.2.1 s.2.2.1 s.2.2.2.1:=by kernel_rfl
noncomputable def B202l1 (x8:Int) (x9:Int) (x10:Int) (x5:(List Int)) (x6:(List Int)) (x7:(List Int)):Option R202:=if x10<(x6.length:Int)then(if 0≤wrap64 (x8+x10)then(if wrap64 (x8+x10)<(x7.length:Int)then(if 0≤x8 then(if x8<(x5.length:Int)then(if 0≤x10 then(if x10<(x6.length:Int)then(if 0≤wrap64 (x8+x10)then(if wrap64 (x8+x10)<(x7.length:Int)then(if(0:Int)≤32 then(gl1 x8 ((IntKind.u64.wrap ((IntKind.u64.wrap ((rd x7 (wrap64 (x8+x10)))+(IntKind.u64.wrap ((rd x5 x8)*(rd x6 x10)))))+x9))/4294967296) (wrap64 (x10+1)) x5 x6 (x7.set (wrap64 (x8+x10):Int).toNat (Go.bits .and .u64 (IntKind.u64.wrap ((IntKind.u64.wrap ((rd x7 (wrap64 (x8+x10)))+(IntKind.u64.wrap ((rd x5 x8)*(rd x6 x10)))))+x9)) 4294967295)))else(none))else(none))else(none))else(none))else(none))else(none))else(none))else(none))else(none))else(if 0≤wrap64 (x8+(x6.length:Int))then(if wrap64 (x8+(x6.length:Int))<(x7.length:Int)then(gl0 (wrap64 (x8+1)) x5 x6 (x7.set (wrap64 (x8+(x6.length:Int)):Int).toNat x9))else(none))else(none))
theorem e202l1 (s0:SbT ask202.bl) (s:k202l1.T):evPos E0 (orcOf (fes202 c221 c229)) 70 an202 (loOf (les202 gl0 gl1)) (rk202 s0) (p202.getD 1 ⟨0,[], .skip⟩) (k202l1.mk' s)=B202l1 gl0 gl1 s.1.1 s.1.2.1 s.1.2.2.1 s.2.1 s.2.2.1 s.2.2.2.1:=by kernel_rfl
noncomputable def B202 (x0:ByteArray) (x1:ByteArray):Option R202:=(c229 x0).bind fun r1=>((c229 x1).bind fun r2=>(if 0≤wrap64 ((r1.length:Int)+(r2.length:Int))then(if wrap64 ((r1.length:Int)+(r2.length:Int))≤wrap64 ((r1.length:Int)+(r2.length:Int))then(if(wrap64 ((r1.length:Int)+(r2.length:Int)):Int).toNat≤35184372088832 then(gl0 0 r1 r2 (List.replicate (wrap64 ((r1.length:Int)+(r2.length:Int)):Int).toNat (0:Int)))else(none))else(none))else(none)))
theorem e202 (s:ask202.T):evFn E0 (orcOf (fes202 c221 c229)) an202 (loOf (les202 gl0 gl1)) 70 cd202 Tryz.f202.results.toList rm202 (ask202.mk' s) (decW rsk202 dec202)=B202 gl0 c229 s.1.1 s.1.2.1:=by kernel_rfl
end
noncomputable def an161:Ann:=⟨[],[],[]⟩
noncomputable def cd161:Code:=(Tryz.f161.body).getD .skip
noncomputable def rm161:List RM:=[.d (.ag (.pr .bo .st))]
noncomputable def les161:List (LoE R161):=[]
noncomputable def fes161 (c198:Bool→ByteArray→Option R198) (c202:ByteArray→ByteArray→Option R202):List FE:=[(fe198 c198),(fe202 c202)]
section
variable (c198:Bool→ByteArray→Option R198) (c202:ByteArray→ByteArray→Option R202)
noncomputable def B161 (x0:TI) (x1:TI):Option R161:=(c202 x0.2 x1.2).bind fun r1=>((c198 (!(x0.1==x1.1)) r1).bind fun r2=>(some (r2.1,r2.2)))
theorem e161 (s:ask161.T):evFn E0 (orcOf (fes161 c198 c202)) an161 (loOf (les161)) 16 cd161 Tryz.f161.results.toList rm161 (ask161.mk' s) (decW rsk161 dec161)=B161 c198 c202 s.1.1 s.1.2.1:=by kernel_rfl
end
noncomputable def an162:Ann:=⟨[],[],[]⟩
noncomputable def cd162:Code:=(Tryz.f162.body).getD .skip
noncomputable def rm162:List RM:=[.d (.ag (.pr .bo .st))]
noncomputable def les162:List (LoE R162):=[]
noncomputable def fes162:List FE:=[]
noncomputable def B162 (x0:TQ):Option R162:=some (false,x0.2)
theorem e162 (s:ask162.T):evFn E0 (orcOf (fes162)) an162 (loOf (les162)) 6 cd162 Tryz.f162.results.toList rm162 (ask162.mk' s) (decW rsk162 dec162)=B162 s.1.1:=by kernel_rfl
noncomputable def an230:Ann:=⟨[(5,[(0, .pt),(1, .any),(5, .any)])],[],[]⟩
noncomputable def cd230:Code:=(Tryz.f230.body).getD .skip
noncomputable def p230:List Pos:=posns an230 [] cd230
noncomputable def rm230:List RM:=[.d .bo]
noncomputable def rk230 (s0:SbT ask230.bl):KX R230:=retK E0 Tryz.f230.results.toList rm230 (mkB ask230.bl s0) (decW rsk230 dec230)
noncomputable def k230l0:Sk:=⟨[(0, .pre 2000),(1, .d (.li (.it .u64))),(5, .d (.it .i64))],[(2000, .own (.it .u64) false)]⟩
noncomputable def les230 (gl0:Int→(List Int)→Int→(List Int)→Option R230):List (LoE R230):=[⟨5,k230l0,fun s=>gl0 s.1.1 s.1.2.1 s.1.2.2.1 s.2.1⟩]
noncomputable def fes230 (c249:(List Int)→Option R249):List FE:=[(fe249 c249)]
section
variable (gl0:Int→(List Int)→Int→(List Int)→Option R230) (c249:(List Int)→Option R249)
noncomputable def B230l0 (x0:Int) (x1:(List Int)) (x5:Int) (y0:(List Int)):Option R230:=if x5≥0 then(if 0≤x5 then(if x5<x0-0 then(if 0≤x5 then(if x5<(x1.length:Int)then(if rd y0 (0+x5)≠rd x1 x5 then(if 0≤x5 then(if x5<x0-0 then(if 0≤x5 then(if x5<(x1.length:Int)then(some (decide (rd y0 (0+x5)<rd x1 x5),y0))else(none))else(none))else(none))else(none))else(gl0 x0 x1 (wrap64 (x5-1)) y0))else(none))else(none))else(none))else(none))else(some (false,y0))
theorem e230l0 (s0:SbT ask230.bl) (s:k230l0.T):evPos E0 (orcOf (fes230 c249)) 43 an230 (loOf (les230 gl0)) (rk230 s0) (p230.getD 0 ⟨0,[], .skip⟩) (k230l0.mk' s)=B230l0 gl0 s.1.1 s.1.2.1 s.1.2.2.1 s.2.1:=by kernel_rfl
noncomputable def B230 (x1:(List Int)) (y0:(List Int)):Option R230:=(c249 y0).bind fun r1=>(if r1.1-0≠(x1.length:Int)then(some (decide (r1.1-0<(x1.length:Int)),r1.2))else(gl0 r1.1 x1 (wrap64 ((r1.1-0)-1)) r1.2))
theorem e230 (s:ask230.T):evFn E0 (orcOf (fes230 c249)) an230 (loOf (les230 gl0)) 43 cd230 Tryz.f230.results.toList rm230 (ask230.mk' s) (decW rsk230 dec230)=B230 gl0 c249 s.1.1 s.2.1:=by kernel_rfl
end
noncomputable def an203:Ann:=⟨[(8,[(7, .val (.li (.it .u64))),(8, .any),(9, .any),(10, .any),(11, .any)]),(10,[(7, .any),(8, .any),(9, .any),(10, .any),(11, .any)]),(15,[(7, .val (.li (.it .u64))),(8, .any),(9, .any),(10, .any),(11, .any),(12, .any),(13, .any),(14, .any)])],[],[]⟩
noncomputable def cd203:Code:=(Tryz.f203.body).getD .skip
noncomputable def p203:List Pos:=posns an203 [] cd203
noncomputable def rm203:List RM:=[.d .st, .d .st]
noncomputable def rk203 (s0:SbT ask203.bl):KX R203:=retK E0 Tryz.f203.results.toList rm203 (mkB ask203.bl s0) (decW rsk203 dec203)
noncomputable def k203l0:Sk:=⟨[(7, .d (.li (.it .u64))),(8, .d (.it .i64)),(9, .f (.a (.ref 9))),(10, .f (.a (.ref 10))),(11, .d (.it .i64))],[(9, .own (.it .u64) true),(10, .own (.it .u64) true)]⟩
noncomputable def k203l1:Sk:=⟨[(7, .d (.li (.it .u64))),(8, .d (.it .i64)),(9, .f (.a (.ref 9))),(10, .f (.a (.ref 10))),(11, .d (.it .i64))],[(9, .own (.it .u64) true),(10, .own (.it .u64) true)]⟩
noncomputable def k203l2:Sk:=⟨[(7, .d (.li (.it .u64))),(8, .d (.it .i64)),(9, .f (.a (.ref 9))),(10, .f (.a (.ref 10))),(11, .d (.it .i64)),(12, .d (.it .u64)),(13, .d (.it .u64)),(14, .d (.it .i64))],[(9, .own (.it .u64) true),(10, .own (.it .u64) true)]⟩
noncomputable def les203 (gl0:(List Int)→Int→Int→(List Int)→(List Int)→Option R203) (gl1:(List Int)→Int→Int→(List Int)→(List Int)→Option R203) (gl2:(List Int)→Int→Int→Int→Int→Int→(List Int)→(List Int)→Option R203):List (LoE R203):=[⟨8,k203l0,fun s=>gl0 s.1.1 s.1.2.1 s.1.2.2.1 s.2.1 s.2.2.1⟩,⟨10,k203l1,fun s=>gl1 s.1.1 s.1.2.1 s.1.2.2.1 s.2.1 s.2.2.1⟩,⟨15,k203l2,fun s=>gl2 s.1.1 s.1.2.1 s.1.2.2.1 s.1.2.2.2.1 s.1.2.2.2.2.1 s.1.2.2.2.2.2.1 s.2.1 s.2.2.1⟩]
noncomputable def fes203 (c221:(List Int)→Option R221) (c229:ByteArray→Option R229) (c230:(List Int)→(List Int)→Option R230):List FE:=[(fe221 c221),(fe229 c229),(fe230 c230)]
section
variable (gl0:(List Int)→Int→Int→(List Int)→(List Int)→Option R203) (gl1:(List Int)→Int→Int→(List Int)→(List Int)→Option R203) (gl2:(List Int)→Int→Int→Int→Int→Int→(List Int)→(List Int)→Option R203) (c221:(List Int)→Option R221) (c229:ByteArray→Option R229) (c230:(List Int)→(List Int)→Option R230)
noncomputable def B203l0 (x7:(List Int)) (x8:Int) (x11:Int) (x9:(List Int)) (x10:(List Int)):Option R203:=if x11≥0 then(gl1 x7 x8 x11 x9 x10)else((c221 x10).bind fun r1=>((c221 x9).bind fun r2=>(some (r1,r2))))
theorem e203l0 (s0:SbT ask203.bl) (s:k203l0.T):evPos E0 (orcOf (fes203 c221 c229 c230)) 148 an203 (loOf (les203 gl0 gl1 gl2)) (rk203 s0) (p203.getD 0 ⟨0,[], .skip⟩) (k203l0.mk' s)=B203l0 gl1 c221 s.1.1 s.1.2.1 s.1.2.2.1 s.2.1 s.2.2.1:=by kernel_rfl
noncomputable def B203l1 (x7:(List Int)) (x8:Int) (x11:Int) (x9:(List Int)) (x10:(List Int)):Option R203:=if 0≤x11 then(if x11≤(x9.length:Int)then(if(x9.length:Int)≤(x9.length:Int)then(if(x9.length:Int)≤(x9.length:Int)then((c230 x7 (slice_ x9 x11 (x9.length:Int))).bind fun r1=>(cnd ((!r1.1)) (if 0≤wrap64 (x11+x8)then(if wrap64 (x11+x8)<((x9.take ((x11:Int).toNat)++r1.2++x9.drop (((x9.length:Int):Int).toNat)).length:Int)then(if(0:Int)≤32 then(if 0≤wrap64 ((wrap64 (x11+x8))-1)then(if wrap64 ((wrap64 (x11+x8))-1)<((x9.take ((x11:Int).toNat)++r1.2++x9.drop (((x9.length:Int):Int).toNat)).length:Int)then(if 0≤wrap64 (x8-1)then(if wrap64 (x8-1)<(x7.length:Int)then(if IntKind.u64.wrap ((rd x7 (wrap64 (x8-1)))+1)=0 then(none)else(if 0≤x11 then(if x11<(x10.length:Int)then(if 0≤x11 then(if x11<(x10.length:Int)then(gl2 x7 x8 x11 (mx 1 (IntKind.u64.wrap (Int.tdiv (IntKind.u64.wrap ((IntKind.u64.wrap ((rd (x9.take ((x11:Int).toNat)++r1.2++x9.drop (((x9.length:Int):Int).toNat)) (wrap64 (x11+x8)))*4294967296))+(rd (x9.take ((x11:Int).toNat)++r1.2++x9.drop (((x9.length:Int):Int).toNat)) (wrap64 ((wrap64 (x11+x8))-1))))) (IntKind.u64.wrap ((rd x7 (wrap64 (x8-1)))+1))))) 0 0 (x9.take ((x11:Int).toNat)++r1.2++x9.drop (((x9.length:Int):Int).toNat)) (x10.set (x11:Int).toNat (IntKind.u64.wrap ((rd x10 x11)+(mx 1 (IntKind.u64.wrap (Int.tdiv (IntKind.u64.wrap ((IntKind.u64.wrap ((rd (x9.take ((x11:Int).toNat)++r1.2++x9.drop (((x9.length:Int):Int).toNat)) (wrap64 (x11+x8)))*4294967296))+(rd (x9.take ((x11:Int).toNat)++r1.2++x9.drop (((x9.length:Int):Int).toNat)) (wrap64 ((wrap64 (x11+x8))-1))))) (IntKind.u64.wrap ((rd x7 (wrap64 (x8-1)))+1)))))))))else(none))else(none))else(none))else(none)))else(none))else(none))else(none))else(none))else(none))else(none))else(none)) (gl0 x7 x8 (wrap64 (x11-1)) (x9.take ((x11:Int).toNat)++r1.2++x9.drop (((x9.length:Int):Int).toNat)) x10)))else(none))else(none))else(none))else(none)
theorem e203l1 (s0:SbT ask203.bl) (s:k203l1.T):evPos E0 (orcOf (fes203 c221 c229 c230)) 148 an203 (loOf (les203 gl0 gl1 gl2)) (rk203 s0) (p203.getD 1 ⟨0,[], .skip⟩) (k203l1.mk' s)=B203l1 gl0 gl2 c230 s.1.1 s.1.2.1 s.1.2.2.1 s.2.1 s.2.2.1:=by kernel_rfl
noncomputable def B203l2 (x7:(List Int)) (x8:Int) (x11:Int) (x12:Int) (x13:Int) (x14:Int) (x9:(List Int)) (x10:(List Int)):Option R203:=if x14<x8 then(if 0≤x14 then(if x14<(x7.length:Int)then(if(0:Int)≤32 then(if 0≤wrap64 (x11+x14)then(if wrap64 (x11+x14)<(x9.length:Int)then(if rd x9 (wrap64 (x11+x14))<Go.bits .and .u64 (IntKind.u64.wrap ((IntKind.u64.wrap ((rd x7 x14)*x12))+x13)) 4294967295 then(if 0≤wrap64 (x11+x14)then(if wrap64 (x11+x14)<(x9.length:Int)then(if 0≤wrap64 (x11+x14)then(if wrap64 (x11+x14)<(x9.length:Int)then(if 0≤wrap64 (x11+x14)then(if wrap64 (x11+x14)<((x9.set (wrap64 (x11+x14):Int).toNat (IntKind.u64.wrap ((rd x9 (wrap64 (x11+x14)))+4294967296))).length:Int)then(if 0≤wrap64 (x11+x14)then(if wrap64 (x11+x14)<((x9.set (wrap64 (x11+x14):Int).toNat (IntKind.u64.wrap ((rd x9 (wrap64 (x11+x14)))+4294967296))).length:Int)then(gl2 x7 x8 x11 x12 (IntKind.u64.wrap (((IntKind.u64.wrap ((IntKind.u64.wrap ((rd x7 x14)*x12))+x13))/4294967296)+1)) (wrap64 (x14+1)) ((x9.set (wrap64 (x11+x14):Int).toNat (IntKind.u64.wrap ((rd x9 (wrap64 (x11+x14)))+4294967296))).set (wrap64 (x11+x14):Int).toNat (IntKind.u64.wrap ((rd (x9.set (wrap64 (x11+x14):Int).toNat (IntKind.u64.wrap ((rd x9 (wrap64 (x11+x14)))+4294967296))) (wrap64 (x11+x14)))-(Go.bits .and .u64 (IntKind.u64.wrap ((IntKind.u64.wrap ((rd x7 x14)*x12))+x13)) 4294967295)))) x10)else(none))else(none))else(none))else(none))else(none))else(none))else(none))else(none))else(if 0≤wrap64 (x11+x14)then(if wrap64 (x11+x14)<(x9.length:Int)then(if 0≤wrap64 (x11+x14)then(if wrap64 (x11+x14)<(x9.length:Int)then(gl2 x7 x8 x11 x12 ((IntKind.u64.wrap ((IntKind.u64.wrap ((rd x7 x14)*x12))+x13))/4294967296) (wrap64 (x14+1)) (x9.set (wrap64 (x11+x14):Int).toNat (IntKind.u64.wrap ((rd x9 (wrap64 (x11+x14)))-(Go.bits .and .u64 (IntKind.u64.wrap ((IntKind.u64.wrap ((rd x7 x14)*x12))+x13)) 4294967295)))) x10)else(none))else(none))else(none))else(none)))else(none))else(none))else(none))else(none))else(none))else(if 0≤wrap64 (x11+x8)then(if wrap64 (x11+x8)<(x9.length:Int)then(if 0≤wrap64 (x11+x8)then(if wrap64 (x11+x8)<(x9.length:Int)then(gl1 x7 x8 x11 (x9.set (wrap64 (x11+x8):Int).toNat (IntKind.u64.wrap ((rd x9 (wrap64 (x11+x8)))-x13))) x10)else(none))else(none))else(none))else(none))
theorem e203l2 (s0:SbT ask203.bl) (s:k203l2.T):evPos E0 (orcOf (fes203 c221 c229 c230)) 148 an203 (loOf (les203 gl0 gl1 gl2)) (rk203 s0) (p203.getD 2 ⟨0,[], .skip⟩) (k203l2.mk' s)=B203l2 gl1 gl2 s.1.1 s.1.2.1 s.1.2.2.1 s.1.2.2.2.1 s.1.2.2.2.2.1 s.1.2.2.2.2.2.1 s.2.1 s.2.2.1:=by kernel_rfl
noncomputable def B203 (x0:ByteArray) (x1:ByteArray):Option R203:=cnd ((eqS x1 (⟨#[]⟩:ByteArray))) (some ((⟨#[]⟩:ByteArray),(⟨#[]⟩:ByteArray))) ((c229 x0).bind fun r1=>((c229 x1).bind fun r2=>(if(r1.length+1)*8≤140737488355328 then(if 0≤mx 0 (wrap64 ((wrap64 ((r1.length:Int)-(r2.length:Int)))+1))then(if mx 0 (wrap64 ((wrap64 ((r1.length:Int)-(r2.length:Int)))+1))≤mx 0 (wrap64 ((wrap64 ((r1.length:Int)-(r2.length:Int)))+1))then(if(mx 0 (wrap64 ((wrap64 ((r1.length:Int)-(r2.length:Int)))+1)):Int).toNat≤35184372088832 then(gl0 r2 (r2.length:Int) (wrap64 (((List.replicate (mx 0 (wrap64 ((wrap64 ((r1.length:Int)-(r2.length:Int)))+1)):Int).toNat (0:Int)).length:Int)-1)) (r1++([0]:List Int)) (List.replicate (mx 0 (wrap64 ((wrap64 ((r1.length:Int)-(r2.length:Int)))+1)):Int).toNat (0:Int)))else(none))else(none))else(none))else(none))))
theorem e203 (s:ask203.T):evFn E0 (orcOf (fes203 c221 c229 c230)) an203 (loOf (les203 gl0 gl1 gl2)) 148 cd203 Tryz.f203.results.toList rm203 (ask203.mk' s) (decW rsk203 dec203)=B203 gl0 c229 s.1.1 s.1.2.1:=by kernel_rfl
end
noncomputable def an180:Ann:=⟨[(1,[(0, .any),(1, .any)])],[],[]⟩
noncomputable def cd180:Code:=(Tryz.f180.body).getD .skip
noncomputable def p180:List Pos:=posns an180 [] cd180
noncomputable def rm180:List RM:=[.d .st]
noncomputable def rk180 (s0:SbT ask180.bl):KX R180:=retK E0 Tryz.f180.results.toList rm180 (mkB ask180.bl s0) (decW rsk180 dec180)
noncomputable def k180l0:Sk:=⟨[(0, .d .st),(1, .d .st)],[]⟩
noncomputable def les180 (gl0:ByteArray→ByteArray→Option R180):List (LoE R180):=[⟨1,k180l0,fun s=>gl0 s.1.1 s.1.2.1⟩]
noncomputable def fes180 (c203:ByteArray→ByteArray→Option R203):List FE:=[(fe203 c203)]
section
variable (gl0:ByteArray→ByteArray→Option R180) (c203:ByteArray→ByteArray→Option R203)
noncomputable def B180l0 (x0:ByteArray) (x1:ByteArray):Option R180:=cnd ((!(eqS x1 (⟨#[]⟩:ByteArray)))) ((c203 x0 x1).bind fun r1=>(gl0 x1 r1.2)) (some x0)
theorem e180l0 (s0:SbT ask180.bl) (s:k180l0.T):evPos E0 (orcOf (fes180 c203)) 18 an180 (loOf (les180 gl0)) (rk180 s0) (p180.getD 0 ⟨0,[], .skip⟩) (k180l0.mk' s)=B180l0 gl0 c203 s.1.1 s.1.2.1:=by kernel_rfl
noncomputable def B180 (x0:ByteArray) (x1:ByteArray):Option R180:=gl0 x0 x1
theorem e180 (s:ask180.T):evFn E0 (orcOf (fes180 c203)) an180 (loOf (les180 gl0)) 18 cd180 Tryz.f180.results.toList rm180 (ask180.mk' s) (decW rsk180 dec180)=B180 gl0 s.1.1 s.1.2.1:=by kernel_rfl
end
noncomputable def an163:Ann:=⟨[],[],[]⟩
noncomputable def cd163:Code:=(Tryz.f163.body).getD .skip
noncomputable def rm163:List RM:=[.d (.ag (.pr (.ag (.pr .bo .st)) .st))]
noncomputable def les163:List (LoE R163):=[]
noncomputable def fes163 (c180:ByteArray→ByteArray→Option R180) (c198:Bool→ByteArray→Option R198) (c203:ByteArray→ByteArray→Option R203):List FE:=[(fe180 c180),(fe198 c198),(fe203 c203)]
section
variable (c180:ByteArray→ByteArray→Option R180) (c198:Bool→ByteArray→Option R198) (c203:ByteArray→ByteArray→Option R203)
noncomputable def B163 (x0:TI) (x1:TI):Option R163:=cnd ((eqS x1.2 (⟨#[]⟩:ByteArray))) (some ((false,(⟨#[]⟩:ByteArray)),(⟨#[1]⟩:ByteArray))) ((c180 x0.2 x1.2).bind fun r1=>((c203 x0.2 r1).bind fun r2=>((c203 x1.2 r1).bind fun r3=>((c198 (!(x0.1==x1.1)) r2.1).bind fun r4=>(some ((r4.1,r4.2),r3.1))))))
theorem e163 (s:ask163.T):evFn E0 (orcOf (fes163 c180 c198 c203)) an163 (loOf (les163)) 42 cd163 Tryz.f163.results.toList rm163 (ask163.mk' s) (decW rsk163 dec163)=B163 c180 c198 c203 s.1.1 s.1.2.1:=by kernel_rfl
end
noncomputable def an101:Ann:=⟨[],[],[]⟩
noncomputable def cd101:Code:=(Tryz.f101.body).getD .skip
noncomputable def rm101:List RM:=[.d (.ag (.pr (.ag (.pr .bo .st)) .st))]
noncomputable def les101:List (LoE R101):=[]
noncomputable def fes101 (c159:TI→Option R159) (c160:TI→TI→Option R160) (c161:TI→TI→Option R161) (c162:TQ→Option R162) (c163:TI→TI→Option R163):List FE:=[(fe159 c159),(fe160 c160),(fe161 c161),(fe162 c162),(fe163 c163)]
section
variable (c159:TI→Option R159) (c160:TI→TI→Option R160) (c161:TI→TI→Option R161) (c162:TQ→Option R162) (c163:TI→TI→Option R163)
noncomputable def B101 (x0:TQ) (x1:TQ):Option R101:=cnd ((eqS x0.2 (⟨#[1]⟩:ByteArray))) (cnd ((eqS x1.2 (⟨#[1]⟩:ByteArray))) ((c160 x0.1 x1.1).bind fun r1=>((c159 (r1.1,r1.2)).bind fun r2=>(some (r2.1,r2.2)))) ((c162 x1).bind fun r3=>((c161 x0.1 (r3.1,r3.2)).bind fun r4=>((c162 x0).bind fun r5=>((c161 x1.1 (r5.1,r5.2)).bind fun r6=>((c160 (r4.1,r4.2) (r6.1,r6.2)).bind fun r7=>((c162 x0).bind fun r8=>((c162 x1).bind fun r9=>((c161 (r8.1,r8.2) (r9.1,r9.2)).bind fun r10=>((c163 (r7.1,r7.2) (r10.1,r10.2)).bind fun r11=>(some (r11.1,r11.2)))))))))))) ((c162 x1).bind fun r12=>((c161 x0.1 (r12.1,r12.2)).bind fun r13=>((c162 x0).bind fun r14=>((c161 x1.1 (r14.1,r14.2)).bind fun r15=>((c160 (r13.1,r13.2) (r15.1,r15.2)).bind fun r16=>((c162 x0).bind fun r17=>((c162 x1).bind fun r18=>((c161 (r17.1,r17.2) (r18.1,r18.2)).bind fun r19=>((c163 (r16.1,r16.2) (r19.1,r19.2)).bind fun r20=>(some (r20.1,r20.2)))))))))))
theorem e101 (s:ask101.T):evFn E0 (orcOf (fes101 c159 c160 c161 c162 c163)) an101 (loOf (les101)) 38 cd101 Tryz.f101.results.toList rm101 (ask101.mk' s) (decW rsk101 dec101)=B101 c159 c160 c161 c162 c163 s.1.1 s.1.2.1:=by kernel_rfl
end
noncomputable def an102:Ann:=⟨[],[],[]⟩
noncomputable def cd102:Code:=(Tryz.f102.body).getD .skip
noncomputable def rm102:List RM:=[.d (.ag (.pr (.ag (.pr .bo .st)) .st))]
noncomputable def les102:List (LoE R102):=[]
noncomputable def fes102 (c81:Int→Option R81):List FE:=[(fe81 c81)]
section
variable (c81:Int→Option R81)
noncomputable def B102 (x0:(List TQ)) (x1:Int):Option R102:=if x1<(x0.length:Int)then(if 0≤x1 then(if x1<(x0.length:Int)then(some ((rdOf ((false,(⟨#[]⟩:ByteArray)),(⟨#[]⟩:ByteArray)) x0 x1).1,(rdOf ((false,(⟨#[]⟩:ByteArray)),(⟨#[]⟩:ByteArray)) x0 x1).2))else(none))else(none))else((c81 0).bind fun r1=>(some (r1.1,r1.2)))
theorem e102 (s:ask102.T):evFn E0 (orcOf (fes102 c81)) an102 (loOf (les102)) 14 cd102 Tryz.f102.results.toList rm102 (ask102.mk' s) (decW rsk102 dec102)=B102 c81 s.1.1 s.1.2.1:=by kernel_rfl
end
noncomputable def an20:Ann:=⟨[(3,[(0, .any),(1, .any),(5, .own (.ag (.pr (.ag (.pr .bo .st)) .st))),(6, .any)])],[],[]⟩
noncomputable def cd20:Code:=(Tryz.f20.body).getD .skip
noncomputable def p20:List Pos:=posns an20 [] cd20
noncomputable def rm20:List RM:=[.d (.li (.ag (.pr (.ag (.pr .bo .st)) .st)))]
noncomputable def rk20 (s0:SbT ask20.bl):KX R20:=retK E0 Tryz.f20.results.toList rm20 (mkB ask20.bl s0) (decW rsk20 dec20)
noncomputable def k20l0:Sk:=⟨[(0, .d (.li (.ag (.pr (.ag (.pr .bo .st)) .st)))),(1, .d (.li (.ag (.pr (.ag (.pr .bo .st)) .st)))),(5, .f (.a (.ref 5))),(6, .d (.it .i64))],[(5, .own (.ag (.pr (.ag (.pr .bo .st)) .st)) true)]⟩
noncomputable def les20 (gl0:(List TQ)→(List TQ)→Int→(List TQ)→Option R20):List (LoE R20):=[⟨3,k20l0,fun s=>gl0 s.1.1 s.1.2.1 s.1.2.2.1 s.2.1⟩]
noncomputable def fes20 (c48:(List TQ)→Option R48) (c101:TQ→TQ→Option R101) (c102:(List TQ)→Int→Option R102):List FE:=[(fe48 c48),(fe101 c101),(fe102 c102)]
section
variable (gl0:(List TQ)→(List TQ)→Int→(List TQ)→Option R20) (c48:(List TQ)→Option R48) (c101:TQ→TQ→Option R101) (c102:(List TQ)→Int→Option R102)
noncomputable def B20l0 (x0:(List TQ)) (x1:(List TQ)) (x6:Int) (x5:(List TQ)):Option R20:=if x6<mx (x0.length:Int) (x1.length:Int)then((c102 x0 x6).bind fun r1=>((c102 x1 x6).bind fun r2=>((c101 (r1.1,r1.2) (r2.1,r2.2)).bind fun r3=>(if(x5.length+1)*40≤140737488355328 then(gl0 x0 x1 (wrap64 (x6+1)) (x5++([(r3.1,r3.2)]:List TQ)))else(none)))))else((c48 x5).bind fun r4=>(some r4))
theorem e20l0 (s0:SbT ask20.bl) (s:k20l0.T):evPos E0 (orcOf (fes20 c48 c101 c102)) 28 an20 (loOf (les20 gl0)) (rk20 s0) (p20.getD 0 ⟨0,[], .skip⟩) (k20l0.mk' s)=B20l0 gl0 c48 c101 c102 s.1.1 s.1.2.1 s.1.2.2.1 s.2.1:=by kernel_rfl
noncomputable def B20 (x0:(List TQ)) (x1:(List TQ)):Option R20:=gl0 x0 x1 0 ([]:List TQ)
theorem e20 (s:ask20.T):evFn E0 (orcOf (fes20 c48 c101 c102)) an20 (loOf (les20 gl0)) 28 cd20 Tryz.f20.results.toList rm20 (ask20.mk' s) (decW rsk20 dec20)=B20 gl0 s.1.1 s.1.2.1:=by kernel_rfl
end
noncomputable def an21:Ann:=⟨[(3,[(1, .any),(2, .any),(5, .own (.ag (.pr (.ag (.pr .bo .st)) .st))),(6, .any)])],[],[]⟩
noncomputable def cd21:Code:=(Tryz.f21.body).getD .skip
noncomputable def p21:List Pos:=posns an21 [] cd21
noncomputable def rm21:List RM:=[.d (.li (.ag (.pr (.ag (.pr .bo .st)) .st)))]
noncomputable def rk21 (s0:SbT ask21.bl):KX R21:=retK E0 Tryz.f21.results.toList rm21 (mkB ask21.bl s0) (decW rsk21 dec21)
noncomputable def k21l0:Sk:=⟨[(1, .d (.it .i64)),(2, .f (.a (.ptr 2 0 []))),(5, .f (.a (.ref 5))),(6, .d (.it .i64))],[(2, .cell (.ag (.pr (.ag (.pr .bo .st)) .st)) true),(5, .own (.ag (.pr (.ag (.pr .bo .st)) .st)) true)]⟩
noncomputable def les21 (gl0:Int→Int→TQ→(List TQ)→Option R21):List (LoE R21):=[⟨3,k21l0,fun s=>gl0 s.1.1 s.1.2.1 s.2.1 s.2.2.1⟩]
noncomputable def fes21 (c48:(List TQ)→Option R48) (c81:Int→Option R81):List FE:=[(fe48 c48),(fe81 c81)]
section
variable (gl0:Int→Int→TQ→(List TQ)→Option R21) (c48:(List TQ)→Option R48) (c81:Int→Option R81)
noncomputable def B21l0 (x1:Int) (x6:Int) (x2:TQ) (x5:(List TQ)):Option R21:=if x6<x1 then((c81 0).bind fun r1=>(if(x5.length+1)*40≤140737488355328 then(gl0 x1 (wrap64 (x6+1)) x2 (x5++([(r1.1,r1.2)]:List TQ)))else(none)))else(if(x5.length+1)*40≤140737488355328 then((c48 (x5++([x2]:List TQ))).bind fun r2=>(some r2))else(none))
theorem e21l0 (s0:SbT ask21.bl) (s:k21l0.T):evPos E0 (orcOf (fes21 c48 c81)) 21 an21 (loOf (les21 gl0)) (rk21 s0) (p21.getD 0 ⟨0,[], .skip⟩) (k21l0.mk' s)=B21l0 gl0 c48 c81 s.1.1 s.1.2.1 s.2.1 s.2.2.1:=by kernel_rfl
noncomputable def B21 (x0:TQ) (x1:Int):Option R21:=gl0 x1 0 x0 ([]:List TQ)
theorem e21 (s:ask21.T):evFn E0 (orcOf (fes21 c48 c81)) an21 (loOf (les21 gl0)) 21 cd21 Tryz.f21.results.toList rm21 (ask21.mk' s) (decW rsk21 dec21)=B21 gl0 s.1.1 s.1.2.1:=by kernel_rfl
end
noncomputable def an103:Ann:=⟨[],[],[]⟩
noncomputable def cd103:Code:=(Tryz.f103.body).getD .skip
noncomputable def rm103:List RM:=[.d (.li (.ag (.pr (.ag (.pr .bo .st)) .st)))]
noncomputable def les103:List (LoE R103):=[]
noncomputable def fes103:List FE:=[]
noncomputable def B103 (x0:(List (List TQ))) (x1:Int):Option R103:=if x1<(x0.length:Int)then(if 0≤x1 then(if x1<(x0.length:Int)then(some (rdOf ([]:List TQ) x0 x1))else(none))else(none))else(some ([]:List TQ))
theorem e103 (s:ask103.T):evFn E0 (orcOf (fes103)) an103 (loOf (les103)) 13 cd103 Tryz.f103.results.toList rm103 (ask103.mk' s) (decW rsk103 dec103)=B103 s.1.1 s.1.2.1:=by kernel_rfl
noncomputable def an104:Ann:=⟨[(2,[(0, .any),(3, .any)])],[],[]⟩
noncomputable def cd104:Code:=(Tryz.f104.body).getD .skip
noncomputable def p104:List Pos:=posns an104 [] cd104
noncomputable def rm104:List RM:=[.d (.li (.li (.ag (.pr (.ag (.pr .bo .st)) .st))))]
noncomputable def rk104 (s0:SbT ask104.bl):KX R104:=retK E0 Tryz.f104.results.toList rm104 (mkB ask104.bl s0) (decW rsk104 dec104)
noncomputable def k104l0:Sk:=⟨[(0, .d (.li (.li (.ag (.pr (.ag (.pr .bo .st)) .st))))),(3, .d (.it .i64))],[]⟩
noncomputable def les104 (gl0:(List (List TQ))→Int→Option R104):List (LoE R104):=[⟨2,k104l0,fun s=>gl0 s.1.1 s.1.2.1⟩]
noncomputable def fes104:List FE:=[]
section
variable (gl0:(List (List TQ))→Int→Option R104)
noncomputable def B104l0 (x0:(List (List TQ))) (x3:Int):Option R104:=if x3>0 then(if 0≤wrap64 (x3-1)then(if wrap64 (x3-1)<(x0.length:Int)then(if((rdOf ([]:List TQ) x0 (wrap64 (x3-1))).length:Int)=0 then(gl0 x0 (wrap64 (x3-1)))else(if(0:Int)≤0 then(if 0≤x3 then(if x3≤(x0.length:Int)then(if(x0.length:Int)≤(x0.length:Int)then(if(([]:List (List TQ)).length+(slice_ x0 0 x3).length)*24≤140737488355328 then(some (([]:List (List TQ))++(slice_ x0 0 x3)))else(none))else(none))else(none))else(none))else(none)))else(none))else(none))else(if(0:Int)≤0 then(if 0≤x3 then(if x3≤(x0.length:Int)then(if(x0.length:Int)≤(x0.length:Int)then(if(([]:List (List TQ)).length+(slice_ x0 0 x3).length)*24≤140737488355328 then(some (([]:List (List TQ))++(slice_ x0 0 x3)))else(none))else(none))else(none))else(none))else(none))
theorem e104l0 (s0:SbT ask104.bl) (s:k104l0.T):evPos E0 (orcOf (fes104)) 24 an104 (loOf (les104 gl0)) (rk104 s0) (p104.getD 0 ⟨0,[], .skip⟩) (k104l0.mk' s)=B104l0 gl0 s.1.1 s.1.2.1:=by kernel_rfl
noncomputable def B104 (x0:(List (List TQ))):Option R104:=gl0 x0 (x0.length:Int)
theorem e104 (s:ask104.T):evFn E0 (orcOf (fes104)) an104 (loOf (les104 gl0)) 24 cd104 Tryz.f104.results.toList rm104 (ask104.mk' s) (decW rsk104 dec104)=B104 gl0 s.1.1:=by kernel_rfl
end
noncomputable def an23:Ann:=⟨[(3,[(0, .any),(1, .any),(5, .own (.li (.ag (.pr (.ag (.pr .bo .st)) .st)))),(6, .any)])],[],[]⟩
noncomputable def cd23:Code:=(Tryz.f23.body).getD .skip
noncomputable def p23:List Pos:=posns an23 [] cd23
noncomputable def rm23:List RM:=[.d (.li (.li (.ag (.pr (.ag (.pr .bo .st)) .st))))]
noncomputable def rk23 (s0:SbT ask23.bl):KX R23:=retK E0 Tryz.f23.results.toList rm23 (mkB ask23.bl s0) (decW rsk23 dec23)
noncomputable def k23l0:Sk:=⟨[(0, .d (.li (.li (.ag (.pr (.ag (.pr .bo .st)) .st))))),(1, .d (.li (.li (.ag (.pr (.ag (.pr .bo .st)) .st))))),(5, .f (.a (.ref 5))),(6, .d (.it .i64))],[(5, .own (.li (.ag (.pr (.ag (.pr .bo .st)) .st))) true)]⟩
noncomputable def les23 (gl0:(List (List TQ))→(List (List TQ))→Int→(List (List TQ))→Option R23):List (LoE R23):=[⟨3,k23l0,fun s=>gl0 s.1.1 s.1.2.1 s.1.2.2.1 s.2.1⟩]
noncomputable def fes23 (c20:(List TQ)→(List TQ)→Option R20) (c103:(List (List TQ))→Int→Option R103) (c104:(List (List TQ))→Option R104):List FE:=[(fe20 c20),(fe103 c103),(fe104 c104)]
section
variable (gl0:(List (List TQ))→(List (List TQ))→Int→(List (List TQ))→Option R23) (c20:(List TQ)→(List TQ)→Option R20) (c103:(List (List TQ))→Int→Option R103) (c104:(List (List TQ))→Option R104)
noncomputable def B23l0 (x0:(List (List TQ))) (x1:(List (List TQ))) (x6:Int) (x5:(List (List TQ))):Option R23:=if x6<mx (x0.length:Int) (x1.length:Int)then((c103 x0 x6).bind fun r1=>((c103 x1 x6).bind fun r2=>((c20 r1 r2).bind fun r3=>(if(x5.length+1)*24≤140737488355328 then(gl0 x0 x1 (wrap64 (x6+1)) (x5++([r3]:List (List TQ))))else(none)))))else((c104 x5).bind fun r4=>(some r4))
theorem e23l0 (s0:SbT ask23.bl) (s:k23l0.T):evPos E0 (orcOf (fes23 c20 c103 c104)) 28 an23 (loOf (les23 gl0)) (rk23 s0) (p23.getD 0 ⟨0,[], .skip⟩) (k23l0.mk' s)=B23l0 gl0 c20 c103 c104 s.1.1 s.1.2.1 s.1.2.2.1 s.2.1:=by kernel_rfl
noncomputable def B23 (x0:(List (List TQ))) (x1:(List (List TQ))):Option R23:=gl0 x0 x1 0 ([]:List (List TQ))
theorem e23 (s:ask23.T):evFn E0 (orcOf (fes23 c20 c103 c104)) an23 (loOf (les23 gl0)) 28 cd23 Tryz.f23.results.toList rm23 (ask23.mk' s) (decW rsk23 dec23)=B23 gl0 s.1.1 s.1.2.1:=by kernel_rfl
end
noncomputable def an24:Ann:=⟨[(3,[(0, .any),(1, .any),(5, .own (.li (.ag (.pr (.ag (.pr .bo .st)) .st)))),(6, .any)])],[],[]⟩
noncomputable def cd24:Code:=(Tryz.f24.body).getD .skip
noncomputable def p24:List Pos:=posns an24 [] cd24
noncomputable def rm24:List RM:=[.d (.li (.li (.ag (.pr (.ag (.pr .bo .st)) .st))))]
noncomputable def rk24 (s0:SbT ask24.bl):KX R24:=retK E0 Tryz.f24.results.toList rm24 (mkB ask24.bl s0) (decW rsk24 dec24)
noncomputable def k24l0:Sk:=⟨[(0, .d (.li (.ag (.pr (.ag (.pr .bo .st)) .st)))),(1, .d (.it .i64)),(5, .f (.a (.ref 5))),(6, .d (.it .i64))],[(5, .own (.li (.ag (.pr (.ag (.pr .bo .st)) .st))) true)]⟩
noncomputable def les24 (gl0:(List TQ)→Int→Int→(List (List TQ))→Option R24):List (LoE R24):=[⟨3,k24l0,fun s=>gl0 s.1.1 s.1.2.1 s.1.2.2.1 s.2.1⟩]
noncomputable def fes24 (c104:(List (List TQ))→Option R104):List FE:=[(fe104 c104)]
section
variable (gl0:(List TQ)→Int→Int→(List (List TQ))→Option R24) (c104:(List (List TQ))→Option R104)
noncomputable def B24l0 (x0:(List TQ)) (x1:Int) (x6:Int) (x5:(List (List TQ))):Option R24:=if x6<x1 then(if(x5.length+1)*24≤140737488355328 then(gl0 x0 x1 (wrap64 (x6+1)) (x5++([([]:List TQ)]:List (List TQ))))else(none))else(if(x5.length+1)*24≤140737488355328 then((c104 (x5++([x0]:List (List TQ)))).bind fun r1=>(some r1))else(none))
theorem e24l0 (s0:SbT ask24.bl) (s:k24l0.T):evPos E0 (orcOf (fes24 c104)) 20 an24 (loOf (les24 gl0)) (rk24 s0) (p24.getD 0 ⟨0,[], .skip⟩) (k24l0.mk' s)=B24l0 gl0 c104 s.1.1 s.1.2.1 s.1.2.2.1 s.2.1:=by kernel_rfl
noncomputable def B24 (x0:(List TQ)) (x1:Int):Option R24:=gl0 x0 x1 0 ([]:List (List TQ))
theorem e24 (s:ask24.T):evFn E0 (orcOf (fes24 c104)) an24 (loOf (les24 gl0)) 20 cd24 Tryz.f24.results.toList rm24 (ask24.mk' s) (decW rsk24 dec24)=B24 gl0 s.1.1 s.1.2.1:=by kernel_rfl
end
noncomputable def an118:Ann:=⟨[],[],[]⟩
noncomputable def cd118:Code:=(Tryz.f118.body).getD .skip
noncomputable def rm118:List RM:=[.d (.ag (.pr (.ag (.pr .bo .st)) .st))]
noncomputable def les118:List (LoE R118):=[]
noncomputable def fes118 (c159:TI→Option R159) (c161:TI→TI→Option R161) (c162:TQ→Option R162) (c163:TI→TI→Option R163):List FE:=[(fe159 c159),(fe161 c161),(fe162 c162),(fe163 c163)]
section
variable (c159:TI→Option R159) (c161:TI→TI→Option R161) (c162:TQ→Option R162) (c163:TI→TI→Option R163)
noncomputable def B118 (x0:TQ) (x1:TQ):Option R118:=cnd ((eqS x0.2 (⟨#[1]⟩:ByteArray))) (cnd ((eqS x1.2 (⟨#[1]⟩:ByteArray))) ((c161 x0.1 x1.1).bind fun r1=>((c159 (r1.1,r1.2)).bind fun r2=>(some (r2.1,r2.2)))) ((c161 x0.1 x1.1).bind fun r3=>((c162 x0).bind fun r4=>((c162 x1).bind fun r5=>((c161 (r4.1,r4.2) (r5.1,r5.2)).bind fun r6=>((c163 (r3.1,r3.2) (r6.1,r6.2)).bind fun r7=>(some (r7.1,r7.2)))))))) ((c161 x0.1 x1.1).bind fun r8=>((c162 x0).bind fun r9=>((c162 x1).bind fun r10=>((c161 (r9.1,r9.2) (r10.1,r10.2)).bind fun r11=>((c163 (r8.1,r8.2) (r11.1,r11.2)).bind fun r12=>(some (r12.1,r12.2)))))))
theorem e118 (s:ask118.T):evFn E0 (orcOf (fes118 c159 c161 c162 c163)) an118 (loOf (les118)) 30 cd118 Tryz.f118.results.toList rm118 (ask118.mk' s) (decW rsk118 dec118)=B118 c159 c161 c162 c163 s.1.1 s.1.2.1:=by kernel_rfl
end
noncomputable def an45:Ann:=⟨[(3,[(0, .any),(1, .any),(5, .own (.ag (.pr (.ag (.pr .bo .st)) .st))),(6, .any)]),(7,[(0, .any),(1, .any),(5, .any),(6, .any),(7, .any),(21, .any),(22, .any)])],[],[]⟩
noncomputable def cd45:Code:=(Tryz.f45.body).getD .skip
noncomputable def p45:List Pos:=posns an45 [] cd45
noncomputable def rm45:List RM:=[.d (.li (.ag (.pr (.ag (.pr .bo .st)) .st)))]
noncomputable def rk45 (s0:SbT ask45.bl):KX R45:=retK E0 Tryz.f45.results.toList rm45 (mkB ask45.bl s0) (decW rsk45 dec45)
noncomputable def k45l0:Sk:=⟨[(0, .d (.li (.ag (.pr (.ag (.pr .bo .st)) .st)))),(1, .d (.li (.ag (.pr (.ag (.pr .bo .st)) .st)))),(5, .f (.a (.ref 5))),(6, .d (.it .i64))],[(5, .own (.ag (.pr (.ag (.pr .bo .st)) .st)) true)]⟩
noncomputable def k45l1:Sk:=⟨[(0, .d (.li (.ag (.pr (.ag (.pr .bo .st)) .st)))),(1, .d (.li (.ag (.pr (.ag (.pr .bo .st)) .st)))),(5, .f (.a (.ref 5))),(6, .d (.it .i64)),(7, .f (.a (.ptr 7 0 []))),(21, .d (.it .i64)),(22, .d (.it .i64))],[(5, .own (.ag (.pr (.ag (.pr .bo .st)) .st)) true),(7, .cell (.ag (.pr (.ag (.pr .bo .st)) .st)) true)]⟩
noncomputable def les45 (gl0:(List TQ)→(List TQ)→Int→(List TQ)→Option R45) (gl1:(List TQ)→(List TQ)→Int→Int→Int→(List TQ)→TQ→Option R45):List (LoE R45):=[⟨3,k45l0,fun s=>gl0 s.1.1 s.1.2.1 s.1.2.2.1 s.2.1⟩,⟨7,k45l1,fun s=>gl1 s.1.1 s.1.2.1 s.1.2.2.1 s.1.2.2.2.1 s.1.2.2.2.2.1 s.2.1 s.2.2.1⟩]
noncomputable def fes45 (c48:(List TQ)→Option R48) (c81:Int→Option R81) (c101:TQ→TQ→Option R101) (c118:TQ→TQ→Option R118):List FE:=[(fe48 c48),(fe81 c81),(fe101 c101),(fe118 c118)]
section
variable (gl0:(List TQ)→(List TQ)→Int→(List TQ)→Option R45) (gl1:(List TQ)→(List TQ)→Int→Int→Int→(List TQ)→TQ→Option R45) (c48:(List TQ)→Option R48) (c81:Int→Option R81) (c101:TQ→TQ→Option R101) (c118:TQ→TQ→Option R118)
noncomputable def B45l0 (x0:(List TQ)) (x1:(List TQ)) (x6:Int) (x5:(List TQ)):Option R45:=if x6<wrap64 ((wrap64 ((x0.length:Int)+(x1.length:Int)))-1)then((c81 0).bind fun r1=>(gl1 x0 x1 x6 (x0.length:Int) 0 x5 (r1.1,r1.2)))else((c48 x5).bind fun r2=>(some r2))
theorem e45l0 (s0:SbT ask45.bl) (s:k45l0.T):evPos E0 (orcOf (fes45 c48 c81 c101 c118)) 57 an45 (loOf (les45 gl0 gl1)) (rk45 s0) (p45.getD 0 ⟨0,[], .skip⟩) (k45l0.mk' s)=B45l0 gl1 c48 c81 s.1.1 s.1.2.1 s.1.2.2.1 s.2.1:=by kernel_rfl
noncomputable def B45l1 (x0:(List TQ)) (x1:(List TQ)) (x6:Int) (x21:Int) (x22:Int) (x5:(List TQ)) (x7:TQ):Option R45:=if x22<x21 then(if wrap64 (x6-x22)≥0 then(if wrap64 (x6-x22)<(x1.length:Int)then(if 0≤x22 then(if x22<(x0.length:Int)then(if 0≤wrap64 (x6-x22)then(if wrap64 (x6-x22)<(x1.length:Int)then((c118 (rdOf ((false,(⟨#[]⟩:ByteArray)),(⟨#[]⟩:ByteArray)) x0 x22) (rdOf ((false,(⟨#[]⟩:ByteArray)),(⟨#[]⟩:ByteArray)) x1 (wrap64 (x6-x22)))).bind fun r1=>((c101 x7 (r1.1,r1.2)).bind fun r2=>(gl1 x0 x1 x6 x21 (wrap64 (x22+1)) x5 (r2.1,r2.2))))else(none))else(none))else(none))else(none))else(gl1 x0 x1 x6 x21 (wrap64 (x22+1)) x5 x7))else(gl1 x0 x1 x6 x21 (wrap64 (x22+1)) x5 x7))else(if(x5.length+1)*40≤140737488355328 then(gl0 x0 x1 (wrap64 (x6+1)) (x5++([x7]:List TQ)))else(none))
theorem e45l1 (s0:SbT ask45.bl) (s:k45l1.T):evPos E0 (orcOf (fes45 c48 c81 c101 c118)) 57 an45 (loOf (les45 gl0 gl1)) (rk45 s0) (p45.getD 1 ⟨0,[], .skip⟩) (k45l1.mk' s)=B45l1 gl0 gl1 c101 c118 s.1.1 s.1.2.1 s.1.2.2.1 s.1.2.2.2.1 s.1.2.2.2.2.1 s.2.1 s.2.2.1:=by kernel_rfl
noncomputable def B45 (x0:(List TQ)) (x1:(List TQ)):Option R45:=gl0 x0 x1 0 ([]:List TQ)
theorem e45 (s:ask45.T):evFn E0 (orcOf (fes45 c48 c81 c101 c118)) an45 (loOf (les45 gl0 gl1)) 57 cd45 Tryz.f45.results.toList rm45 (ask45.mk' s) (decW rsk45 dec45)=B45 gl0 s.1.1 s.1.2.1:=by kernel_rfl
end
noncomputable def an25:Ann:=⟨[(3,[(0, .any),(1, .any),(5, .any),(6, .any)])],[],[]⟩
noncomputable def cd25:Code:=(Tryz.f25.body).getD .skip
noncomputable def p25:List Pos:=posns an25 [] cd25
noncomputable def rm25:List RM:=[.d (.li (.ag (.pr (.ag (.pr .bo .st)) .st)))]
noncomputable def rk25 (s0:SbT ask25.bl):KX R25:=retK E0 Tryz.f25.results.toList rm25 (mkB ask25.bl s0) (decW rsk25 dec25)
noncomputable def k25l0:Sk:=⟨[(0, .d (.li (.ag (.pr (.ag (.pr .bo .st)) .st)))),(1, .d (.it .i64)),(5, .d (.li (.ag (.pr (.ag (.pr .bo .st)) .st)))),(6, .d (.it .i64))],[]⟩
noncomputable def les25 (gl0:(List TQ)→Int→(List TQ)→Int→Option R25):List (LoE R25):=[⟨3,k25l0,fun s=>gl0 s.1.1 s.1.2.1 s.1.2.2.1 s.1.2.2.2.1⟩]
noncomputable def fes25 (c22:(List Int)→Option R22) (c45:(List TQ)→(List TQ)→Option R45):List FE:=[(fe22 c22),(fe45 c45)]
section
variable (gl0:(List TQ)→Int→(List TQ)→Int→Option R25) (c22:(List Int)→Option R22) (c45:(List TQ)→(List TQ)→Option R45)
noncomputable def B25l0 (x0:(List TQ)) (x1:Int) (x5:(List TQ)) (x6:Int):Option R25:=if x6<x1 then((c45 x5 x0).bind fun r1=>(gl0 x0 x1 r1 (wrap64 (x6+1))))else(some x5)
theorem e25l0 (s0:SbT ask25.bl) (s:k25l0.T):evPos E0 (orcOf (fes25 c22 c45)) 18 an25 (loOf (les25 gl0)) (rk25 s0) (p25.getD 0 ⟨0,[], .skip⟩) (k25l0.mk' s)=B25l0 gl0 c45 s.1.1 s.1.2.1 s.1.2.2.1 s.1.2.2.2.1:=by kernel_rfl
noncomputable def B25 (x0:(List TQ)) (x1:Int):Option R25:=(c22 ([1]:List Int)).bind fun r1=>(gl0 x0 x1 r1 0)
theorem e25 (s:ask25.T):evFn E0 (orcOf (fes25 c22 c45)) an25 (loOf (les25 gl0)) 18 cd25 Tryz.f25.results.toList rm25 (ask25.mk' s) (decW rsk25 dec25)=B25 gl0 c22 s.1.1 s.1.2.1:=by kernel_rfl
end
noncomputable def an4:Ann:=⟨[],[],[]⟩
noncomputable def cd4:Code:=(Tryz.f4.body).getD .skip
noncomputable def p4:List Pos:=posns an4 [] cd4
noncomputable def rm4:List RM:=[.d .bo]
noncomputable def les4:List (LoE R4):=[]
noncomputable def fes4 (c16:Option R16) (c17:(List TQ)→(List (List TQ))→Option R17) (c18:(List TQ)→(List TQ)→Option R18) (c20:(List TQ)→(List TQ)→Option R20) (c21:TQ→Int→Option R21) (c22:(List Int)→Option R22) (c23:(List (List TQ))→(List (List TQ))→Option R23) (c24:(List TQ)→Int→Option R24) (c25:(List TQ)→Int→Option R25):List FE:=[(fe16 c16),(fe17 c17),(fe18 c18),(fe20 c20),(fe21 c21),(fe22 c22),(fe23 c23),(fe24 c24),(fe25 c25)]
section
variable (c16:Option R16) (c17:(List TQ)→(List (List TQ))→Option R17) (c18:(List TQ)→(List TQ)→Option R18) (c20:(List TQ)→(List TQ)→Option R20) (c21:TQ→Int→Option R21) (c22:(List Int)→Option R22) (c23:(List (List TQ))→(List (List TQ))→Option R23) (c24:(List TQ)→Int→Option R24) (c25:(List TQ)→Int→Option R25)
noncomputable def B4 (x0:Int) (x1:Int):Option R4:=if x0<1 then((c16).bind fun r1=>(some r1))else(if x0>24 then((c16).bind fun r2=>(some r2))else(if x1<1 then((c16).bind fun r3=>(some r3))else(if x1>64 then((c16).bind fun r4=>(some r4))else(if wrap64 (x0*x1)≤64 then(if wrap64 (x0*x1)>12 then((c16).bind fun r5=>(some r5))else((c22 ([1]:List Int)).bind fun r6=>(if(0:Int)≤0 then(if 0<(r6.length:Int)then((c21 (rdOf ((false,(⟨#[]⟩:ByteArray)),(⟨#[]⟩:ByteArray)) r6 0) x0).bind fun r7=>((c22 ([(-2)]:List Int)).bind fun r8=>((c20 r7 r8).bind fun r9=>((c22 ([1]:List Int)).bind fun r10=>((c24 r10 x1).bind fun r11=>((c22 ([1]:List Int)).bind fun r12=>((c23 r11 ([r12]:List (List TQ))).bind fun r13=>((c17 r9 r13).bind fun r14=>(if wrap64 (x0*x1)>64 then(if r14.2=4 then(if(r14.1.length:Int)=0 then((c16).bind fun r15=>(some r15))else(some false))else(some false))else(if r14.2=0 then((c22 ([1]:List Int)).bind fun r16=>(if(0:Int)≤0 then(if 0<(r16.length:Int)then((c21 (rdOf ((false,(⟨#[]⟩:ByteArray)),(⟨#[]⟩:ByteArray)) r16 0) x1).bind fun r17=>((c22 ([1]:List Int)).bind fun r18=>((c20 r17 r18).bind fun r19=>((c25 r19 x0).bind fun r20=>((c18 r14.1 r20).bind fun r21=>(cnd (r21) ((c16).bind fun r22=>(some r22)) (some false)))))))else(none))else(none)))else(some false)))))))))))else(none))else(none))))else((c22 ([1]:List Int)).bind fun r23=>(if(0:Int)≤0 then(if 0<(r23.length:Int)then((c21 (rdOf ((false,(⟨#[]⟩:ByteArray)),(⟨#[]⟩:ByteArray)) r23 0) x0).bind fun r24=>((c22 ([(-2)]:List Int)).bind fun r25=>((c20 r24 r25).bind fun r26=>((c22 ([1]:List Int)).bind fun r27=>((c24 r27 x1).bind fun r28=>((c22 ([1]:List Int)).bind fun r29=>((c23 r28 ([r29]:List (List TQ))).bind fun r30=>((c17 r26 r30).bind fun r31=>(if wrap64 (x0*x1)>64 then(if r31.2=4 then(if(r31.1.length:Int)=0 then((c16).bind fun r32=>(some r32))else(some false))else(some false))else(if r31.2=0 then((c22 ([1]:List Int)).bind fun r33=>(if(0:Int)≤0 then(if 0<(r33.length:Int)then((c21 (rdOf ((false,(⟨#[]⟩:ByteArray)),(⟨#[]⟩:ByteArray)) r33 0) x1).bind fun r34=>((c22 ([1]:List Int)).bind fun r35=>((c20 r34 r35).bind fun r36=>((c25 r36 x0).bind fun r37=>((c18 r31.1 r37).bind fun r38=>(cnd (r38) ((c16).bind fun r39=>(some r39)) (some false)))))))else(none))else(none)))else(some false)))))))))))else(none))else(none)))))))
theorem e4 (s:ask4.T):evFn E0 (orcOf (fes4 c16 c17 c18 c20 c21 c22 c23 c24 c25)) an4 (loOf (les4)) 94 cd4 Tryz.f4.results.toList rm4 (ask4.mk' s) (decW rsk4 dec4)=B4 c16 c17 c18 c20 c21 c22 c23 c24 c25 s.1.1 s.1.2.1:=by kernel_rfl
end
end Go.Proofs.YtijohnkgomcdbaaGreatV
namespace Go.Proofs.YtijohnkgomcdbaaGreatE
open Go.RowKit Go.Proofs.YtijohnkgomcdbaaGreatW.PrintWords Go.Proofs.YtijohnkgomcdbaaGreatW.PrintLast Go.Proofs.YtijohnkgomcdbaaGreatW.PrintMore
end Go.Proofs.YtijohnkgomcdbaaGreatE
namespace Go.Proofs.YtijohnkgomcdbaaGreat
end Go.Proofs.YtijohnkgomcdbaaGreat
namespace Go.Proofs.YtijohnkgomcdbaaGreat.All
def bits_Add64.f (a0:Int) (a1:Int) (a2:Int):Option (Int×Int):=if 0≤a0∧0≤a1∧0≤a2∧a2≤1 then some ((a0+a1+a2)%18446744073709551616,(a0+a1+a2)/18446744073709551616)else none
def bits_Sub64.f (a0:Int) (a1:Int) (a2:Int):Option (Int×Int):=if 0≤a0∧0≤a1∧a1≤18446744073709551615∧0≤a2∧a2≤1 then some ((a0-a1-a2)%18446744073709551616,if a0<a1+a2 then 1 else 0)else none
end Go.Proofs.YtijohnkgomcdbaaGreat.All
namespace Go.Proofs.YtijohnkgomcdbaaGreatV
open Go Go.RowKit YtijohnkgomcdbaaGreat YtijohnkgomcdbaaGreatE YtijohnkgomcdbaaGreatW.PrintWords YtijohnkgomcdbaaGreatW.PrintLast YtijohnkgomcdbaaGreatW.PrintMore
noncomputable abbrev FX189 (k:Nat) (x0:(List TQ)):Option R189:=B189m x0
noncomputable abbrev FX247 (k:Nat) (x0:Int) (x1:Int) (x2:Int):Option R247:=All.bits_Add64.f x0 x1 x2
noncomputable abbrev FX248 (k:Nat) (x0:Int) (x1:Int) (x2:Int):Option R248:=All.bits_Sub64.f x0 x1 x2
end Go.Proofs.YtijohnkgomcdbaaGreatV
set_option maxRecDepth 100000
namespace Go.Proofs.YtijohnkgomcdbaaGreatV
open Go Go.RowKit YtijohnkgomcdbaaGreat YtijohnkgomcdbaaGreatE YtijohnkgomcdbaaGreatW.PrintWords YtijohnkgomcdbaaGreatW.PrintLast YtijohnkgomcdbaaGreatW.PrintMore
noncomputable abbrev FX149 (k:Nat) (x0:TI):Option R149:=B149 x0
noncomputable def GX245vl0:Nat→(List Int)→Int→Option R245v
 |0,_,_=>none
 |k+1,x0,x3=>B245vl0 (GX245vl0 k) x0 x3
noncomputable abbrev FX245v (k:Nat) (x0:(List Int)):Option R245v:=B245v (GX245vl0 k) x0
mutual
noncomputable def GX223l0:Nat→(List Int)→Int→Int→(List Int)→Option R223
 |0,_,_,_,_=>none
 |k+1,x17,x18,x19,x3=>B223l0 (GX223l1 k) (GX223l2 k) x17 x18 x19 x3
noncomputable def GX223l1:Nat→Int→Int→(List Int)→Int→Int→Int→(List Int)→Option R223
 |0,_,_,_,_,_,_,_=>none
 |k+1,x4,x5,x17,x18,x19,x24,x3=>B223l1 (GX223l0 k) (GX223l1 k) x4 x5 x17 x18 x19 x24 x3
noncomputable def GX223l2:Nat→Int→(List Int)→Option R223
 |0,_,_=>none
 |k+1,x7,x3=>B223l2 (GX223l2 k) x7 x3
end
noncomputable abbrev FX223 (k:Nat) (x0:(List Int)):Option R223:=B223 (GX223l0 k) (FX245v k) x0
noncomputable abbrev FX193 (k:Nat) (x0:Int):Option R193:=B193 (FX223 k) x0
noncomputable abbrev FX150 (k:Nat) (x0:Int):Option R150:=B150 (FX193 k) x0
noncomputable abbrev FX89 (k:Nat) (x0:Int):Option R89:=B89 (FX149 k) (FX150 k) x0
noncomputable abbrev FX152 (k:Nat) (x0:TQ):Option R152:=B152 x0
noncomputable abbrev FX214 (k:Nat) (x0:ByteArray):Option R214:=B214 x0
noncomputable abbrev FX243 (k:Nat):Option R243:=B243
noncomputable abbrev FX213 (k:Nat) (x0:TI):Option R213:=B213 (FX214 k) (FX243 k) x0
noncomputable def GX245l0:Nat→Int→(List Int)→Option R245
 |0,_,_=>none
 |k+1,x3,y0=>B245l0 (GX245l0 k) x3 y0
noncomputable abbrev FX245 (k:Nat) (y0:(List Int)):Option R245:=B245 (GX245l0 k) y0
noncomputable def GX225l0:Nat→ByteArray→Int→Int→(List Int)→Option R225
 |0,_,_,_,_=>none
 |k+1,x0,x12,x13,x3=>B225l0 (GX225l0 k) (FX245 k) x0 x12 x13 x3
noncomputable abbrev FX225 (k:Nat) (x0:ByteArray):Option R225:=B225 (GX225l0 k) x0
noncomputable def GX276l0:Nat→(List Int)→(List Int)→Int→Option R276
 |0,_,_,_=>none
 |k+1,x0,x1,x5=>B276l0 (GX276l0 k) x0 x1 x5
noncomputable abbrev FX276 (k:Nat) (x0:(List Int)) (x1:(List Int)):Option R276:=B276 (GX276l0 k) x0 x1
noncomputable abbrev FX297 (k:Nat) (x0:Int):Option R297:=B297 x0
noncomputable abbrev FX278 (k:Nat) (x0:Int):Option R278:=B278 (FX297 k) x0
mutual
noncomputable def GX277l0:Nat→Int→Int→Int→Int→Int→Int→Int→Int→Int→Option R277
 |0,_,_,_,_,_,_,_,_,_=>none
 |k+1,x2,x8,x9,x10,x11,x13,x14,x15,x16=>B277l0 (GX277l0 k) (GX277l1 k) x2 x8 x9 x10 x11 x13 x14 x15 x16
noncomputable def GX277l1:Nat→Int→Int→Int→Int→Int→Int→Int→Int→Int→Option R277
 |0,_,_,_,_,_,_,_,_,_=>none
 |k+1,x2,x8,x9,x10,x14,x15,x16,x17,x18=>B277l1 (GX277l1 k) x2 x8 x9 x10 x14 x15 x16 x17 x18
end
noncomputable abbrev FX277 (k:Nat) (x0:Int) (x1:Int) (x2:Int):Option R277:=B277 (GX277l0 k) (FX278 k) x0 x1 x2
noncomputable def GX279l0:Nat→Int→(List Int)→Int→Int→(List Int)→Option R279
 |0,_,_,_,_,_=>none
 |k+1,x1,x12,x13,x14,x5=>B279l0 (GX279l0 k) x1 x12 x13 x14 x5
noncomputable abbrev FX279 (k:Nat) (x0:(List Int)) (x1:Int):Option R279:=B279 (GX279l0 k) x0 x1
noncomputable abbrev FX246 (k:Nat) (x0:Int) (x1:Int):Option R246:=B246 x0 x1
end Go.Proofs.YtijohnkgomcdbaaGreatV
