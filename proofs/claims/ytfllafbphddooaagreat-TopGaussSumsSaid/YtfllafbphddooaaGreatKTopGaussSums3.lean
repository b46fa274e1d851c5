/- Part of the proof of the statement TopGaussSums: lemmas on the model's steps, Lean functions that say what the program's functions compute, and proofs that the calls do just that. No hypothesis is added. -/
import Derived.Test.YtfllafbphddooaaGreatKTopGaussSums2
set_option linter.all false
set_option maxRecDepth 100000
namespace Go.Proofs.YtfllafbphddooaaGreatV
open Go Go.RowKit YtfllafbphddooaaGreatE YtfllafbphddooaaGreatW.PrintWords YtfllafbphddooaaGreatW.PrintLast YtfllafbphddooaaGreatW.PrintMore
noncomputable def enc241Large:R241Large→rsk241Large.T:=fun o=>((o,()),())
noncomputable def dec241Large:rsk241Large.T→R241Large:=fun s=>s.1.1
noncomputable def fe241Large (F:(List TQ)→Option R241Large):FE:=⟨241,ask241Large,rsk241Large,R241Large,fun s=>F s.1.1,enc241Large⟩
noncomputable def ask242:Sk:=⟨[(0, .d (.ag (.pr (.ag (.pr .bo .st)) .st)))],[]⟩
noncomputable def rsk242:Sk:=⟨[(0, .d .bo)],[]⟩
abbrev R242:Type:=Bool
noncomputable def enc242:R242→rsk242.T:=fun o=>((o,()),())
noncomputable def dec242:rsk242.T→R242:=fun s=>s.1.1
noncomputable def fe242 (F:TQ→Option R242):FE:=⟨242,ask242,rsk242,R242,fun s=>F s.1.1,enc242⟩
noncomputable def ask243:Sk:=⟨[(0, .d (.ag (.pr (.ag (.pr .bo .st)) .st)))],[]⟩
noncomputable def rsk243:Sk:=⟨[(0, .d .bo)],[]⟩
abbrev R243:Type:=Bool
noncomputable def enc243:R243→rsk243.T:=fun o=>((o,()),())
noncomputable def dec243:rsk243.T→R243:=fun s=>s.1.1
noncomputable def fe243 (F:TQ→Option R243):FE:=⟨243,ask243,rsk243,R243,fun s=>F s.1.1,enc243⟩
noncomputable def ask244Large:Sk:=⟨[(0, .d (.li (.li (.ag (.pr (.ag (.pr .bo .st)) .st))))),(1, .f (.cl 245 []))],[]⟩
noncomputable def rsk244Large:Sk:=⟨[(0, .d .bo)],[]⟩
abbrev R244Large:Type:=Bool
noncomputable def enc244Large:R244Large→rsk244Large.T:=fun o=>((o,()),())
noncomputable def dec244Large:rsk244Large.T→R244Large:=fun s=>s.1.1
noncomputable def fe244Large (F:(List (List TQ))→Option R244Large):FE:=⟨244,ask244Large,rsk244Large,R244Large,fun s=>F s.1.1,enc244Large⟩
noncomputable def ask245:Sk:=⟨[(0, .d (.li (.ag (.pr (.ag (.pr .bo .st)) .st))))],[]⟩
noncomputable def rsk245:Sk:=⟨[(0, .d .bo)],[]⟩
abbrev R245:Type:=Bool
noncomputable def enc245:R245→rsk245.T:=fun o=>((o,()),())
noncomputable def dec245:rsk245.T→R245:=fun s=>s.1.1
noncomputable def fe245 (F:(List TQ)→Option R245):FE:=⟨245,ask245,rsk245,R245,fun s=>F s.1.1,enc245⟩
noncomputable def ask246:Sk:=⟨[(0, .d (.li (.ag (.pr (.ag (.pr .bo .st)) .st)))),(1, .d (.it .i64))],[]⟩
noncomputable def rsk246:Sk:=⟨[(0, .d (.ag (.pr (.ag (.pr .bo .st)) .st)))],[]⟩
abbrev R246:Type:=TQ
noncomputable def enc246:R246→rsk246.T:=fun o=>(((o.1,o.2),()),())
noncomputable def dec246:rsk246.T→R246:=fun s=>(s.1.1.1,s.1.1.2)
noncomputable def fe246 (F:(List TQ)→Int→Option R246):FE:=⟨246,ask246,rsk246,R246,fun s=>F s.1.1 s.1.2.1,enc246⟩
noncomputable def ask247:Sk:=⟨[(0, .d (.li (.ag (.pr (.ag (.pr .bo .st)) .st))))],[]⟩
noncomputable def rsk247:Sk:=⟨[(0, .f (.a (.ref 3000)))],[(3000, .own (.ag (.pr (.ag (.pr .bo .st)) .st)) true)]⟩
abbrev R247:Type:=(List TQ)
noncomputable def enc247:R247→rsk247.T:=fun o=>((),(o,()))
noncomputable def fe247 (F:(List TQ)→Option R247):FE:=⟨247,ask247,rsk247,R247,fun s=>F s.1.1,enc247⟩
noncomputable def ask247m:Sk:=⟨[(0, .nv false (.ag (.pr (.ag (.pr .bo .st)) .st)))],[]⟩
noncomputable def rsk247m:Sk:=⟨[(0, .f (.a (.ref 3000)))],[(3000, .own (.ag (.pr (.ag (.pr .bo .st)) .st)) true)]⟩
abbrev R247m:Type:=(List TQ)
noncomputable def enc247m:R247m→rsk247m.T:=fun o=>((),(o,()))
noncomputable def dec247m:rsk247m.T→R247m:=fun s=>s.2.1
noncomputable def fe247m (F:(List TQ)→Option R247m):FE:=⟨247,ask247m,rsk247m,R247m,fun s=>F s.1.1,enc247m⟩
noncomputable def ask247n:Sk:=⟨[(0, .nv true (.ag (.pr (.ag (.pr .bo .st)) .st)))],[]⟩
noncomputable def rsk247n:Sk:=⟨[(0, .f (.a (.ref 3000)))],[(3000, .own (.ag (.pr (.ag (.pr .bo .st)) .st)) true)]⟩
abbrev R247n:Type:=(List TQ)
noncomputable def enc247n:R247n→rsk247n.T:=fun o=>((),(o,()))
noncomputable def dec247n:rsk247n.T→R247n:=fun s=>s.2.1
noncomputable def fe247n (F:(List TQ)→Option R247n):FE:=⟨247,ask247n,rsk247n,R247n,fun s=>F s.1.1,enc247n⟩
noncomputable def ask248:Sk:=⟨[(0, .d (.ag (.pr .bo .st)))],[]⟩
noncomputable def rsk248:Sk:=⟨[(0, .d (.it .i64))],[]⟩
abbrev R248:Type:=Int
noncomputable def enc248:R248→rsk248.T:=fun o=>((o,()),())
noncomputable def dec248:rsk248.T→R248:=fun s=>s.1.1
noncomputable def fe248 (F:TI→Option R248):FE:=⟨248,ask248,rsk248,R248,fun s=>F s.1.1,enc248⟩
noncomputable def ask249:Sk:=⟨[(0, .d (.it .i64)),(1, .f (.a (.ptr 2500 0 []))),(2, .f (.a (.ptr 2501 0 [])))],[(2500, .cell (.it .i64) false),(2501, .cell (.nz (.ag (.pr (.it .i64) (.it .i64)))) false)]⟩
noncomputable def rsk249:Sk:=⟨[],[(2500, .cell (.it .i64) false),(2501, .cell (.nz (.ag (.pr (.it .i64) (.it .i64)))) false)]⟩
abbrev R249:Type:=(Int×(List (Int×Int)))
noncomputable def enc249:R249→rsk249.T:=fun o=>((),(o.1,o.2,()))
noncomputable def dec249:rsk249.T→R249:=fun s=>(s.2.1,s.2.2.1)
noncomputable def fe249 (F:Int→Int→(List (Int×Int))→Option R249):FE:=⟨249,ask249,rsk249,R249,fun s=>F s.1.1 s.2.1 s.2.2.1,enc249⟩
noncomputable def ask250:Sk:=⟨[(0, .d (.it .i64)),(1, .d (.it .i64))],[]⟩
noncomputable def rsk250:Sk:=⟨[(0, .d (.it .i64))],[]⟩
abbrev R250:Type:=Int
noncomputable def enc250:R250→rsk250.T:=fun o=>((o,()),())
noncomputable def dec250:rsk250.T→R250:=fun s=>s.1.1
noncomputable def fe250 (F:Int→Int→Option R250):FE:=⟨250,ask250,rsk250,R250,fun s=>F s.1.1 s.1.2.1,enc250⟩
noncomputable def ask251:Sk:=⟨[(0, .d (.it .u64)),(1, .d (.it .u64)),(2, .d (.it .u64))],[]⟩
noncomputable def rsk251:Sk:=⟨[(0, .d (.it .u64)),(1, .d (.it .u64))],[]⟩
abbrev R251:Type:=(Int×Int)
noncomputable def enc251:R251→rsk251.T:=fun o=>((o.1,o.2,()),())
noncomputable def fe251 (F:Int→Int→Int→Option R251):FE:=⟨251,ask251,rsk251,R251,fun s=>F s.1.1 s.1.2.1 s.1.2.2.1,enc251⟩
noncomputable def ask252:Sk:=⟨[(0, .d (.it .u64)),(1, .d (.it .u64))],[]⟩
noncomputable def rsk252:Sk:=⟨[(0, .d (.it .u64)),(1, .d (.it .u64))],[]⟩
abbrev R252:Type:=(Int×Int)
noncomputable def enc252:R252→rsk252.T:=fun o=>((o.1,o.2,()),())
noncomputable def dec252:rsk252.T→R252:=fun s=>(s.1.1,s.1.2.1)
noncomputable def fe252 (F:Int→Int→Option R252):FE:=⟨252,ask252,rsk252,R252,fun s=>F s.1.1 s.1.2.1,enc252⟩
noncomputable def ask253:Sk:=⟨[(0, .f (.a (.ref 2000)))],[(2000, .own (.it .u64) false)]⟩
noncomputable def rsk253:Sk:=⟨[(0, .pre 2000)],[(2000, .own (.it .u64) false)]⟩
abbrev R253:Type:=(Int×(List Int))
noncomputable def enc253:R253→rsk253.T:=fun o=>((o.1,()),(o.2,()))
noncomputable def dec253:rsk253.T→R253:=fun s=>(s.1.1,s.2.1)
noncomputable def fe253 (F:(List Int)→Option R253):FE:=⟨253,ask253,rsk253,R253,fun s=>F s.2.1,enc253⟩
noncomputable def ask254:Sk:=⟨[],[]⟩
noncomputable def rsk254:Sk:=⟨[(0, .d (.ag (.pr .bo .st)))],[]⟩
abbrev R254:Type:=TI
noncomputable def enc254:R254→rsk254.T:=fun o=>(((o.1,o.2),()),())
noncomputable def dec254:rsk254.T→R254:=fun s=>(s.1.1.1,s.1.1.2)
noncomputable def fe254 (F:Option R254):FE:=⟨254,ask254,rsk254,R254,fun s=>F,enc254⟩
noncomputable def ask259:Sk:=⟨[(0, .d (.li (.it .u64))),(1, .d (.li (.it .u64)))],[]⟩
noncomputable def rsk259:Sk:=⟨[(0, .d (.it .i64))],[]⟩
abbrev R259:Type:=Int
noncomputable def enc259:R259→rsk259.T:=fun o=>((o,()),())
noncomputable def dec259:rsk259.T→R259:=fun s=>s.1.1
noncomputable def fe259 (F:(List Int)→(List Int)→Option R259):FE:=⟨259,ask259,rsk259,R259,fun s=>F s.1.1 s.1.2.1,enc259⟩
noncomputable def ask260:Sk:=⟨[(0, .d (.it .u64)),(1, .d (.it .u64)),(2, .d (.it .u64))],[]⟩
noncomputable def rsk260:Sk:=⟨[(0, .d (.it .u64)),(1, .d (.it .u64))],[]⟩
abbrev R260:Type:=(Int×Int)
noncomputable def enc260:R260→rsk260.T:=fun o=>((o.1,o.2,()),())
noncomputable def dec260:rsk260.T→R260:=fun s=>(s.1.1,s.1.2.1)
noncomputable def fe260 (F:Int→Int→Int→Option R260):FE:=⟨260,ask260,rsk260,R260,fun s=>F s.1.1 s.1.2.1 s.1.2.2.1,enc260⟩
noncomputable def ask261:Sk:=⟨[(0, .d (.it .u64))],[]⟩
noncomputable def rsk261:Sk:=⟨[(0, .d (.it .i64))],[]⟩
abbrev R261:Type:=Int
noncomputable def enc261:R261→rsk261.T:=fun o=>((o,()),())
noncomputable def dec261:rsk261.T→R261:=fun s=>s.1.1
noncomputable def fe261 (F:Int→Option R261):FE:=⟨261,ask261,rsk261,R261,fun s=>F s.1.1,enc261⟩
noncomputable def ask262:Sk:=⟨[(0, .d (.li (.it .u64))),(1, .d (.it .i64))],[]⟩
noncomputable def rsk262:Sk:=⟨[(0, .f (.a (.ref 3000)))],[(3000, .own (.it .u64) true)]⟩
abbrev R262:Type:=(List Int)
noncomputable def enc262:R262→rsk262.T:=fun o=>((),(o,()))
noncomputable def dec262:rsk262.T→R262:=fun s=>s.2.1
noncomputable def fe262 (F:(List Int)→Int→Option R262):FE:=⟨262,ask262,rsk262,R262,fun s=>F s.1.1 s.1.2.1,enc262⟩
noncomputable def ask263:Sk:=⟨[(0, .f (.a (.ref 2000))),(1, .d (.li (.it .u64)))],[(2000, .own (.it .u64) false)]⟩
noncomputable def rsk263:Sk:=⟨[(0, .d (.it .u64))],[(2000, .own (.it .u64) false)]⟩
abbrev R263:Type:=(Int×(List Int))
noncomputable def enc263:R263→rsk263.T:=fun o=>((o.1,()),(o.2,()))
noncomputable def dec263:rsk263.T→R263:=fun s=>(s.1.1,s.2.1)
noncomputable def fe263 (F:(List Int)→(List Int)→Option R263):FE:=⟨263,ask263,rsk263,R263,fun s=>F s.1.1 s.2.1,enc263⟩
noncomputable def ask268:Sk:=⟨[(0, .d (.li (.it .i64)))],[]⟩
noncomputable def rsk268:Sk:=⟨[(0, .f (.a (.ref 3000)))],[(3000, .own (.it .i64) true)]⟩
abbrev R268:Type:=(List Int)
noncomputable def enc268:R268→rsk268.T:=fun o=>((),(o,()))
noncomputable def fe268 (F:(List Int)→Option R268):FE:=⟨268,ask268,rsk268,R268,fun s=>F s.1.1,enc268⟩
noncomputable def ask268m:Sk:=⟨[(0, .nv false (.it .i64))],[]⟩
noncomputable def rsk268m:Sk:=⟨[(0, .f (.a (.ref 3000)))],[(3000, .own (.it .i64) true)]⟩
abbrev R268m:Type:=(List Int)
noncomputable def enc268m:R268m→rsk268m.T:=fun o=>((),(o,()))
noncomputable def dec268m:rsk268m.T→R268m:=fun s=>s.2.1
noncomputable def fe268m (F:(List Int)→Option R268m):FE:=⟨268,ask268m,rsk268m,R268m,fun s=>F s.1.1,enc268m⟩
noncomputable def ask268n:Sk:=⟨[(0, .nv true (.it .i64))],[]⟩
noncomputable def rsk268n:Sk:=⟨[(0, .f (.a (.ref 3000)))],[(3000, .own (.it .i64) true)]⟩
abbrev R268n:Type:=(List Int)
noncomputable def enc268n:R268n→rsk268n.T:=fun o=>((),(o,()))
noncomputable def dec268n:rsk268n.T→R268n:=fun s=>s.2.1
noncomputable def fe268n (F:(List Int)→Option R268n):FE:=⟨268,ask268n,rsk268n,R268n,fun s=>F s.1.1,enc268n⟩
noncomputable def ask269Form:Sk:=⟨[(0, .d (.li (.ag (.pr (.ag (.pr .bo .st)) .st)))),(1, .f (.cl 242 []))],[]⟩
noncomputable def rsk269Form:Sk:=⟨[(0, .d (.it .i64))],[]⟩
abbrev R269Form:Type:=Int
noncomputable def enc269Form:R269Form→rsk269Form.T:=fun o=>((o,()),())
noncomputable def dec269Form:rsk269Form.T→R269Form:=fun s=>s.1.1
noncomputable def fe269Form (F:(List TQ)→Option R269Form):FE:=⟨269,ask269Form,rsk269Form,R269Form,fun s=>F s.1.1,enc269Form⟩
noncomputable def ask269Large:Sk:=⟨[(0, .d (.li (.ag (.pr (.ag (.pr .bo .st)) .st)))),(1, .f (.cl 158 []))],[]⟩
noncomputable def rsk269Large:Sk:=⟨[(0, .d (.it .i64))],[]⟩
abbrev R269Large:Type:=Int
noncomputable def enc269Large:R269Large→rsk269Large.T:=fun o=>((o,()),())
noncomputable def dec269Large:rsk269Large.T→R269Large:=fun s=>s.1.1
noncomputable def fe269Large (F:(List TQ)→Option R269Large):FE:=⟨269,ask269Large,rsk269Large,R269Large,fun s=>F s.1.1,enc269Large⟩
noncomputable def ask270Large:Sk:=⟨[(0, .d (.li (.li (.ag (.pr (.ag (.pr .bo .st)) .st))))),(1, .f (.cl 245 []))],[]⟩
noncomputable def rsk270Large:Sk:=⟨[(0, .d (.it .i64))],[]⟩
abbrev R270Large:Type:=Int
noncomputable def enc270Large:R270Large→rsk270Large.T:=fun o=>((o,()),())
noncomputable def dec270Large:rsk270Large.T→R270Large:=fun s=>s.1.1
noncomputable def fe270Large (F:(List (List TQ))→Option R270Large):FE:=⟨270,ask270Large,rsk270Large,R270Large,fun s=>F s.1.1,enc270Large⟩
noncomputable def ask272:Sk:=⟨[(0, .d (.it .u64))],[]⟩
noncomputable def rsk272:Sk:=⟨[(0, .d (.it .i64))],[]⟩
abbrev R272:Type:=Int
noncomputable def enc272:R272→rsk272.T:=fun o=>((o,()),())
noncomputable def dec272:rsk272.T→R272:=fun s=>s.1.1
noncomputable def fe272 (F:Int→Option R272):FE:=⟨272,ask272,rsk272,R272,fun s=>F s.1.1,enc272⟩
noncomputable def an40:Ann:=⟨[(4,[(0, .any),(1, .any),(12, .any),(13, .any)])],[],[]⟩
noncomputable def cd40:Code:=(Tryz.f40.body).getD .skip
noncomputable def p40:List Pos:=posns an40 [] cd40
noncomputable def rm40:List RM:=[.d .bo]
noncomputable def rk40 (s0:SbT ask40.bl):KX R40:=retK E0 Tryz.f40.results.toList rm40 (mkB ask40.bl s0) (decW rsk40 dec40)
noncomputable def k40l0:Sk:=⟨[(0, .d (.li (.ag (.pr (.ag (.pr .bo .st)) .st)))),(1, .d (.li (.ag (.pr (.ag (.pr .bo .st)) .st)))),(12, .d (.it .i64)),(13, .d (.it .i64))],[]⟩
noncomputable def les40 (gl0:(List TQ)→(List TQ)→Int→Int→Option R40):List (LoE R40):=[⟨4,k40l0,fun s=>gl0 s.1.1 s.1.2.1 s.1.2.2.1 s.1.2.2.2.1⟩]
noncomputable def fes40:List FE:=[]
section
variable (gl0:(List TQ)→(List TQ)→Int→Int→Option R40)
noncomputable def B40l0 (x0:(List TQ)) (x1:(List TQ)) (x12:Int) (x13:Int):Option R40:=if x13<x12 then(if 0≤x13 then(if x13<(x0.length:Int)then(if 0≤x13 then(if x13<(x1.length:Int)then(cnd ((!((((((rdOf ((false,(⟨#[]⟩:ByteArray)),(⟨#[]⟩:ByteArray)) x0 x13).1).1)==(((rdOf ((false,(⟨#[]⟩:ByteArray)),(⟨#[]⟩:ByteArray)) x1 x13).1).1))&&(eqS (((rdOf ((false,(⟨#[]⟩:ByteArray)),(⟨#[]⟩:ByteArray)) x0 x13).1).2) (((rdOf ((false,(⟨#[]⟩:ByteArray)),(⟨#[]⟩:ByteArray)) x1 x13).1).2)))&&(eqS ((rdOf ((false,(⟨#[]⟩:ByteArray)),(⟨#[]⟩:ByteArray)) x0 x13).2) ((rdOf ((false,(⟨#[]⟩:ByteArray)),(⟨#[]⟩:ByteArray)) x1 x13).2))))) (some false) (gl0 x0 x1 x12 (wrap64 (x13+1))))else(none))else(none))else(none))else(none))else(some true)
theorem e40l0 (s0:SbT ask40.bl) (s:k40l0.T):evPos E0 (orcOf (fes40)) 26 an40 (loOf (les40 gl0)) (rk40 s0) (p40.getD 0 ⟨0,[], .skip⟩) (k40l0.mk' s)=B40l0 gl0 s.1.1 s.1.2.1 s.1.2.2.1 s.1.2.2.2.1:=by kernel_rfl
noncomputable def B40 (x0:(List TQ)) (x1:(List TQ)):Option R40:=if(x0.length:Int)≠(x1.length:Int)then(some false)else(gl0 x0 x1 (x0.length:Int) 0)
theorem e40 (s:ask40.T):evFn E0 (orcOf (fes40)) an40 (loOf (les40 gl0)) 26 cd40 Tryz.f40.results.toList rm40 (ask40.mk' s) (decW rsk40 dec40)=B40 gl0 s.1.1 s.1.2.1:=by kernel_rfl
end
noncomputable def an200:Ann:=⟨[(4,[(0, .any),(1, .any)])],[],[]⟩
noncomputable def cd200:Code:=(Tryz.f200.body).getD .skip
noncomputable def p200:List Pos:=posns an200 [] cd200
noncomputable def rm200:List RM:=[.d (.it .i64)]
noncomputable def rk200 (s0:SbT ask200.bl):KX R200:=retK E0 Tryz.f200.results.toList rm200 (mkB ask200.bl s0) (decW rsk200 dec200)
noncomputable def k200l0:Sk:=⟨[(0, .d (.it .i64)),(1, .d (.it .i64))],[]⟩
noncomputable def les200 (gl0:Int→Int→Option R200):List (LoE R200):=[⟨4,k200l0,fun s=>gl0 s.1.1 s.1.2.1⟩]
noncomputable def fes200:List FE:=[]
section
variable (gl0:Int→Int→Option R200)
noncomputable def B200l0 (x0:Int) (x1:Int):Option R200:=if x0>0 then(if x0=0 then(none)else(gl0 (Int.tmod x1 x0) x0))else(some x1)
theorem e200l0 (s0:SbT ask200.bl) (s:k200l0.T):evPos E0 (orcOf (fes200)) 20 an200 (loOf (les200 gl0)) (rk200 s0) (p200.getD 0 ⟨0,[], .skip⟩) (k200l0.mk' s)=B200l0 gl0 s.1.1 s.1.2.1:=by kernel_rfl
noncomputable def B200 (x0:Int) (x1:Int):Option R200:=if x1=0 then(none)else(if Int.tmod x0 x1<0 then(gl0 (wrap64 ((Int.tmod x0 x1)+x1)) x1)else(gl0 (Int.tmod x0 x1) x1))
theorem e200 (s:ask200.T):evFn E0 (orcOf (fes200)) an200 (loOf (les200 gl0)) 20 cd200 Tryz.f200.results.toList rm200 (ask200.mk' s) (decW rsk200 dec200)=B200 gl0 s.1.1 s.1.2.1:=by kernel_rfl
end
noncomputable def an197:Ann:=⟨[(3,[(0, .any),(3, .own (.it .i64)),(5, .any),(6, .any)])],[],[]⟩
noncomputable def cd197:Code:=(Tryz.f197.body).getD .skip
noncomputable def p197:List Pos:=posns an197 [] cd197
noncomputable def rm197:List RM:=[.d (.li (.it .i64))]
noncomputable def rk197 (s0:SbT ask197.bl):KX R197:=retK E0 Tryz.f197.results.toList rm197 (mkB ask197.bl s0) (decW rsk197 dec197)
noncomputable def k197l0:Sk:=⟨[(0, .d (.it .i64)),(3, .f (.a (.ref 3))),(5, .d (.it .i64)),(6, .d (.it .i64))],[(3, .own (.it .i64) true)]⟩
noncomputable def les197 (gl0:Int→Int→Int→(List Int)→Option R197):List (LoE R197):=[⟨3,k197l0,fun s=>gl0 s.1.1 s.1.2.1 s.1.2.2.1 s.2.1⟩]
noncomputable def fes197 (c200:Int→Int→Option R200):List FE:=[(fe200 c200)]
section
variable (gl0:Int→Int→Int→(List Int)→Option R197) (c200:Int→Int→Option R200)
noncomputable def B197l0 (x0:Int) (x5:Int) (x6:Int) (x3:(List Int)):Option R197:=if x6<x5 then((c200 x6 x0).bind fun r1=>(if r1=1 then(if(x3.length+1)*8≤140737488355328 then(gl0 x0 x5 (wrap64 (x6+1)) (x3++([x6]:List Int)))else(none))else(gl0 x0 x5 (wrap64 (x6+1)) x3)))else(some x3)
theorem e197l0 (s0:SbT ask197.bl) (s:k197l0.T):evPos E0 (orcOf (fes197 c200)) 19 an197 (loOf (les197 gl0)) (rk197 s0) (p197.getD 0 ⟨0,[], .skip⟩) (k197l0.mk' s)=B197l0 gl0 c200 s.1.1 s.1.2.1 s.1.2.2.1 s.2.1:=by kernel_rfl
noncomputable def B197 (x0:Int):Option R197:=gl0 x0 x0 0 ([]:List Int)
theorem e197 (s:ask197.T):evFn E0 (orcOf (fes197 c200)) an197 (loOf (les197 gl0)) 19 cd197 Tryz.f197.results.toList rm197 (ask197.mk' s) (decW rsk197 dec197)=B197 gl0 s.1.1:=by kernel_rfl
end
noncomputable def an115:Ann:=⟨[(2,[(0, .any),(1, .any),(9, .any),(10, .any),(11, .any)]),(8,[(0, .any),(22, .any),(23, .any),(24, .any)])],[],[]⟩
noncomputable def cd115:Code:=(Tryz.f115.body).getD .skip
noncomputable def p115:List Pos:=posns an115 [] cd115
noncomputable def rm115:List RM:=[.d (.it .i64)]
noncomputable def rk115 (s0:SbT ask115.bl):KX R115:=retK E0 Tryz.f115.results.toList rm115 (mkB ask115.bl s0) (decW rsk115 dec115)
noncomputable def k115l0:Sk:=⟨[(0, .d (.it .i64)),(1, .d (.li (.it .i64))),(9, .d (.li (.it .i64))),(10, .d (.it .i64)),(11, .d (.it .i64))],[]⟩
noncomputable def k115l1:Sk:=⟨[(0, .d (.it .i64)),(22, .d (.li (.it .i64))),(23, .d (.it .i64)),(24, .d (.it .i64))],[]⟩
noncomputable def les115 (gl0:Int→(List Int)→(List Int)→Int→Int→Option R115) (gl1:Int→(List Int)→Int→Int→Option R115):List (LoE R115):=[⟨2,k115l0,fun s=>gl0 s.1.1 s.1.2.1 s.1.2.2.1 s.1.2.2.2.1 s.1.2.2.2.2.1⟩,⟨8,k115l1,fun s=>gl1 s.1.1 s.1.2.1 s.1.2.2.1 s.1.2.2.2.1⟩]
noncomputable def fes115 (c197:Int→Option R197):List FE:=[(fe197 c197)]
section
variable (gl0:Int→(List Int)→(List Int)→Int→Int→Option R115) (gl1:Int→(List Int)→Int→Int→Option R115) (c197:Int→Option R197)
noncomputable def B115l0 (x0:Int) (x1:(List Int)) (x9:(List Int)) (x10:Int) (x11:Int):Option R115:=if x11<x10 then(if 0≤x11 then(if x11<(x9.length:Int)then(if rd x9 x11<1 then(some 3)else(if rd x9 x11>256 then(some 3)else(gl0 x0 x1 x9 x10 (wrap64 (x11+1)))))else(none))else(none))else(gl1 x0 x1 (x1.length:Int) 0)
theorem e115l0 (s0:SbT ask115.bl) (s:k115l0.T):evPos E0 (orcOf (fes115 c197)) 34 an115 (loOf (les115 gl0 gl1)) (rk115 s0) (p115.getD 0 ⟨0,[], .skip⟩) (k115l0.mk' s)=B115l0 gl0 gl1 s.1.1 s.1.2.1 s.1.2.2.1 s.1.2.2.2.1 s.1.2.2.2.2.1:=by kernel_rfl
noncomputable def B115l1 (x0:Int) (x22:(List Int)) (x23:Int) (x24:Int):Option R115:=if x24<x23 then(if 0≤x24 then(if x24<(x22.length:Int)then((c197 (rd x22 x24)).bind fun r1=>(if(r1.length:Int)>x0 then(some 4)else(gl1 x0 x22 x23 (wrap64 (x24+1)))))else(none))else(none))else(some 0)
theorem e115l1 (s0:SbT ask115.bl) (s:k115l1.T):evPos E0 (orcOf (fes115 c197)) 34 an115 (loOf (les115 gl0 gl1)) (rk115 s0) (p115.getD 1 ⟨0,[], .skip⟩) (k115l1.mk' s)=B115l1 gl1 c197 s.1.1 s.1.2.1 s.1.2.2.1 s.1.2.2.2.1:=by kernel_rfl
noncomputable def B115 (x0:Int) (x1:(List Int)):Option R115:=gl0 x0 x1 x1 (x1.length:Int) 0
theorem e115 (s:ask115.T):evFn E0 (orcOf (fes115 c197)) an115 (loOf (les115 gl0 gl1)) 34 cd115 Tryz.f115.results.toList rm115 (ask115.mk' s) (decW rsk115 dec115)=B115 gl0 s.1.1 s.1.2.1:=by kernel_rfl
end
noncomputable def an234v:Ann:=⟨[(2,[(0, .any),(3, .any)])],[],[]⟩
noncomputable def cd234v:Code:=(Tryz.f234.body).getD .skip
noncomputable def p234v:List Pos:=posns an234v [] cd234v
noncomputable def rm234v:List RM:=[.sh]
noncomputable def rk234v (s0:SbT ask234v.bl):KX R234v:=retK E0 Tryz.f234.results.toList rm234v (mkB ask234v.bl s0) (decW rsk234v dec234v)
noncomputable def k234vl0:Sk:=⟨[(0, .d (.li (.it .u64))),(3, .d (.it .i64))],[]⟩
noncomputable def les234v (gl0:(List Int)→Int→Option R234v):List (LoE R234v):=[⟨2,k234vl0,fun s=>gl0 s.1.1 s.1.2.1⟩]
noncomputable def fes234v:List FE:=[]
section
variable (gl0:(List Int)→Int→Option R234v)
noncomputable def B234vl0 (x0:(List Int)) (x3:Int):Option R234v:=if x3>0 then(if 0≤wrap64 (x3-1)then(if wrap64 (x3-1)<(x0.length:Int)then(if rd x0 (wrap64 (x3-1))=0 then(gl0 x0 (wrap64 (x3-1)))else(if(0:Int)≤0 then(if 0≤x3 then(if x3≤(x0.length:Int)then(if(x0.length:Int)≤(x0.length:Int)then(some (slice_ x0 0 x3))else(none))else(none))else(none))else(none)))else(none))else(none))else(if(0:Int)≤0 then(if 0≤x3 then(if x3≤(x0.length:Int)then(if(x0.length:Int)≤(x0.length:Int)then(some (slice_ x0 0 x3))else(none))else(none))else(none))else(none))
theorem e234vl0 (s0:SbT ask234v.bl) (s:k234vl0.T):evPos E0 (orcOf (fes234v)) 21 an234v (loOf (les234v gl0)) (rk234v s0) (p234v.getD 0 ⟨0,[], .skip⟩) (k234vl0.mk' s)=B234vl0 gl0 s.1.1 s.1.2.1:=by kernel_rfl
noncomputable def B234v (x0:(List Int)):Option R234v:=gl0 x0 (x0.length:Int)
theorem e234v (s:ask234v.T):evFn E0 (orcOf (fes234v)) an234v (loOf (les234v gl0)) 21 cd234v Tryz.f234.results.toList rm234v (ask234v.mk' s) (decW rsk234v dec234v)=B234v gl0 s.1.1:=by kernel_rfl
end
noncomputable def an192:Ann:=⟨[(6,[(3, .any),(17, .any),(18, .any),(19, .any)]),(9,[(3, .any),(4, .any),(5, .any),(17, .any),(18, .any),(19, .any),(24, .any)]),(15,[(3, .any),(7, .any)])],[],[]⟩
noncomputable def cd192:Code:=(Tryz.f192.body).getD .skip
noncomputable def p192:List Pos:=posns an192 [] cd192
noncomputable def rm192:List RM:=[.d .st]
noncomputable def rk192 (s0:SbT ask192.bl):KX R192:=retK E0 Tryz.f192.results.toList rm192 (mkB ask192.bl s0) (decW rsk192 dec192)
noncomputable def k192l0:Sk:=⟨[(3, .f (.a (.ref 3))),(17, .d (.li (.it .u64))),(18, .d (.it .i64)),(19, .d (.it .i64))],[(3, .own (.it .u8) true)]⟩
noncomputable def k192l1:Sk:=⟨[(3, .f (.a (.ref 3))),(4, .d (.it .i64)),(5, .d (.it .u64)),(17, .d (.li (.it .u64))),(18, .d (.it .i64)),(19, .d (.it .i64)),(24, .d (.it .i64))],[(3, .own (.it .u8) true)]⟩
noncomputable def k192l2:Sk:=⟨[(3, .f (.a (.ref 3))),(7, .d (.it .i64))],[(3, .own (.it .u8) true)]⟩
noncomputable def les192 (gl0:(List Int)→Int→Int→(List Int)→Option R192) (gl1:Int→Int→(List Int)→Int→Int→Int→(List Int)→Option R192) (gl2:Int→(List Int)→Option R192):List (LoE R192):=[⟨6,k192l0,fun s=>gl0 s.1.1 s.1.2.1 s.1.2.2.1 s.2.1⟩,⟨9,k192l1,fun s=>gl1 s.1.1 s.1.2.1 s.1.2.2.1 s.1.2.2.2.1 s.1.2.2.2.2.1 s.1.2.2.2.2.2.1 s.2.1⟩,⟨15,k192l2,fun s=>gl2 s.1.1 s.2.1⟩]
noncomputable def fes192 (c234v:(List Int)→Option R234v):List FE:=[(fe234v c234v)]
section
variable (gl0:(List Int)→Int→Int→(List Int)→Option R192) (gl1:Int→Int→(List Int)→Int→Int→Int→(List Int)→Option R192) (gl2:Int→(List Int)→Option R192) (c234v:(List Int)→Option R234v)
noncomputable def B192l0 (x17:(List Int)) (x18:Int) (x19:Int) (x3:(List Int)):Option R192:=if x19<x18 then(if 0≤x19 then(if x19<(x17.length:Int)then(gl1 x19 (rd x17 x19) x17 x18 x19 0 x3)else(none))else(none))else(gl2 0 x3)
theorem e192l0 (s0:SbT ask192.bl) (s:k192l0.T):evPos E0 (orcOf (fes192 c234v)) 55 an192 (loOf (les192 gl0 gl1 gl2)) (rk192 s0) (p192.getD 0 ⟨0,[], .skip⟩) (k192l0.mk' s)=B192l0 gl1 gl2 s.1.1 s.1.2.1 s.1.2.2.1 s.2.1:=by kernel_rfl
noncomputable def B192l1 (x4:Int) (x5:Int) (x17:(List Int)) (x18:Int) (x19:Int) (x24:Int) (x3:(List Int)):Option R192:=if x24<8 then(if 0≤wrap64 (8*x24)then(if 0≤wrap64 ((wrap64 ((wrap64 ((x3.length:Int)-1))-(wrap64 (8*x4))))-x24)then(if wrap64 ((wrap64 ((wrap64 ((x3.length:Int)-1))-(wrap64 (8*x4))))-x24)<(x3.length:Int)then(gl1 x4 x5 x17 x18 x19 (wrap64 (x24+1)) (x3.set (wrap64 ((wrap64 ((wrap64 ((x3.length:Int)-1))-(wrap64 (8*x4))))-x24):Int).toNat (IntKind.u8.wrap (shr .u64 x5 (wrap64 (8*x24))))))else(none))else(none))else(none))else(gl0 x17 x18 (wrap64 (x19+1)) x3)
theorem e192l1 (s0:SbT ask192.bl) (s:k192l1.T):evPos E0 (orcOf (fes192 c234v)) 55 an192 (loOf (les192 gl0 gl1 gl2)) (rk192 s0) (p192.getD 1 ⟨0,[], .skip⟩) (k192l1.mk' s)=B192l1 gl0 gl1 s.1.1 s.1.2.1 s.1.2.2.1 s.1.2.2.2.1 s.1.2.2.2.2.1 s.1.2.2.2.2.2.1 s.2.1:=by kernel_rfl
noncomputable def B192l2 (x7:Int) (x3:(List Int)):Option R192:=if 0≤x7 then(if x7<(x3.length:Int)then(if rd x3 x7=0 then(gl2 (wrap64 (x7+1)) x3)else(if 0≤x7 then(if x7≤(x3.length:Int)then(if(x3.length:Int)≤(x3.length:Int)then(if(x3.length:Int)≤(x3.length:Int)then(some (strOfNums (slice_ x3 x7 (x3.length:Int))))else(none))else(none))else(none))else(none)))else(none))else(none)
theorem e192l2 (s0:SbT ask192.bl) (s:k192l2.T):evPos E0 (orcOf (fes192 c234v)) 55 an192 (loOf (les192 gl0 gl1 gl2)) (rk192 s0) (p192.getD 2 ⟨0,[], .skip⟩) (k192l2.mk' s)=B192l2 gl2 s.1.1 s.2.1:=by kernel_rfl
noncomputable def B192 (x0:(List Int)):Option R192:=(c234v x0).bind fun r1=>(if(r1.length:Int)=0 then(some (⟨#[]⟩:ByteArray))else(if 0≤wrap64 (8*(r1.length:Int))then(if wrap64 (8*(r1.length:Int))≤wrap64 (8*(r1.length:Int))then(if(wrap64 (8*(r1.length:Int)):Int).toNat≤281474976710656 then(gl0 r1 (r1.length:Int) 0 (List.replicate (wrap64 (8*(r1.length:Int)):Int).toNat (0:Int)))else(none))else(none))else(none)))
theorem e192 (s:ask192.T):evFn E0 (orcOf (fes192 c234v)) an192 (loOf (les192 gl0 gl1 gl2)) 55 cd192 Tryz.f192.results.toList rm192 (ask192.mk' s) (decW rsk192 dec192)=B192 gl0 c234v s.1.1:=by kernel_rfl
end
noncomputable def an108:Ann:=⟨[],[],[]⟩
noncomputable def cd108:Code:=(Tryz.f108.body).getD .skip
noncomputable def rm108:List RM:=[.d .st]
noncomputable def les108:List (LoE R108):=[]
noncomputable def fes108 (c192:(List Int)→Option R192):List FE:=[(fe192 c192)]
section
variable (c192:(List Int)→Option R192)
noncomputable def B108 (x0:Int):Option R108:=(c192 ([x0]:List Int)).bind fun r1=>(some r1)
theorem e108 (s:ask108.T):evFn E0 (orcOf (fes108 c192)) an108 (loOf (les108)) 6 cd108 Tryz.f108.results.toList rm108 (ask108.mk' s) (decW rsk108 dec108)=B108 c192 s.1.1:=by kernel_rfl
end
noncomputable def an57:Ann:=⟨[],[],[]⟩
noncomputable def cd57:Code:=(Tryz.f57.body).getD .skip
noncomputable def rm57:List RM:=[.d (.ag (.pr .bo .st))]
noncomputable def les57:List (LoE R57):=[]
noncomputable def fes57 (c108:Int→Option R108):List FE:=[(fe108 c108)]
section
variable (c108:Int→Option R108)
noncomputable def B57 (x0:Int):Option R57:=if x0<0 then((c108 (IntKind.u64.wrap (0-(IntKind.u64.wrap (x0))))).bind fun r1=>(some (true,r1)))else((c108 (IntKind.u64.wrap (x0))).bind fun r2=>(some (false,r2)))
theorem e57 (s:ask57.T):evFn E0 (orcOf (fes57 c108)) an57 (loOf (les57)) 14 cd57 Tryz.f57.results.toList rm57 (ask57.mk' s) (decW rsk57 dec57)=B57 c108 s.1.1:=by kernel_rfl
end
noncomputable def an159:Ann:=⟨[],[],[]⟩
noncomputable def cd159:Code:=(Tryz.f159.body).getD .skip
noncomputable def rm159:List RM:=[.d (.ag (.pr (.ag (.pr .bo .st)) .st))]
noncomputable def les159:List (LoE R159):=[]
noncomputable def fes159:List FE:=[]
noncomputable def B159 (x0:TI):Option R159:=some (x0,(⟨#[1]⟩:ByteArray))
theorem e159 (s:ask159.T):evFn E0 (orcOf (fes159)) an159 (loOf (les159)) 5 cd159 Tryz.f159.results.toList rm159 (ask159.mk' s) (decW rsk159 dec159)=B159 s.1.1:=by kernel_rfl
noncomputable def an122:Ann:=⟨[],[],[]⟩
noncomputable def cd122:Code:=(Tryz.f122.body).getD .skip
noncomputable def rm122:List RM:=[.d (.ag (.pr (.ag (.pr .bo .st)) .st))]
noncomputable def les122:List (LoE R122):=[]
noncomputable def fes122 (c57:Int→Option R57) (c159:TI→Option R159):List FE:=[(fe57 c57),(fe159 c159)]
section
variable (c57:Int→Option R57) (c159:TI→Option R159)
noncomputable def B122 (x0:Int):Option R122:=(c57 x0).bind fun r1=>((c159 (r1.1,r1.2)).bind fun r2=>(some (r2.1,r2.2)))
theorem e122 (s:ask122.T):evFn E0 (orcOf (fes122 c57 c159)) an122 (loOf (les122)) 6 cd122 Tryz.f122.results.toList rm122 (ask122.mk' s) (decW rsk122 dec122)=B122 c57 c159 s.1.1:=by kernel_rfl
end
noncomputable def an78:Ann:=⟨[],[],[]⟩
noncomputable def cd78:Code:=(Tryz.f78.body).getD .skip
noncomputable def rm78:List RM:=[.d .bo]
noncomputable def les78:List (LoE R78):=[]
noncomputable def fes78:List FE:=[]
noncomputable def B78 (x0:TQ):Option R78:=some (eqS x0.1.2 (⟨#[]⟩:ByteArray))
theorem e78 (s:ask78.T):evFn E0 (orcOf (fes78)) an78 (loOf (les78)) 7 cd78 Tryz.f78.results.toList rm78 (ask78.mk' s) (decW rsk78 dec78)=B78 s.1.1:=by kernel_rfl
noncomputable def an123:Ann:=⟨[(2,[(0, .any),(3, .any)])],[],[]⟩
noncomputable def cd123:Code:=(Tryz.f123.body).getD .skip
noncomputable def p123:List Pos:=posns an123 [] cd123
noncomputable def rm123:List RM:=[.d (.li (.ag (.pr (.ag (.pr .bo .st)) .st)))]
noncomputable def rk123 (s0:SbT ask123.bl):KX R123:=retK E0 Tryz.f123.results.toList rm123 (mkB ask123.bl s0) (decW rsk123 dec123)
noncomputable def k123l0:Sk:=⟨[(0, .d (.li (.ag (.pr (.ag (.pr .bo .st)) .st)))),(3, .d (.it .i64))],[]⟩
noncomputable def les123 (gl0:(List TQ)→Int→Option R123):List (LoE R123):=[⟨2,k123l0,fun s=>gl0 s.1.1 s.1.2.1⟩]
noncomputable def fes123 (c78:TQ→Option R78):List FE:=[(fe78 c78)]
section
variable (gl0:(List TQ)→Int→Option R123) (c78:TQ→Option R78)
noncomputable def B123l0 (x0:(List TQ)) (x3:Int):Option R123:=if x3>0 then(if 0≤wrap64 (x3-1)then(if wrap64 (x3-1)<(x0.length:Int)then((c78 (rdOf ((false,(⟨#[]⟩:ByteArray)),(⟨#[]⟩:ByteArray)) x0 (wrap64 (x3-1)))).bind fun r1=>(cnd (r1) (gl0 x0 (wrap64 (x3-1))) (if(0:Int)≤0 then(if 0≤x3 then(if x3≤x3 then(if x3≤(x0.length:Int)then(some (slice_ x0 0 x3))else(none))else(none))else(none))else(none))))else(none))else(none))else(if(0:Int)≤0 then(if 0≤x3 then(if x3≤x3 then(if x3≤(x0.length:Int)then(some (slice_ x0 0 x3))else(none))else(none))else(none))else(none))
theorem e123l0 (s0:SbT ask123.bl) (s:k123l0.T):evPos E0 (orcOf (fes123 c78)) 22 an123 (loOf (les123 gl0)) (rk123 s0) (p123.getD 0 ⟨0,[], .skip⟩) (k123l0.mk' s)=B123l0 gl0 c78 s.1.1 s.1.2.1:=by kernel_rfl
noncomputable def B123 (x0:(List TQ)):Option R123:=gl0 x0 (x0.length:Int)
theorem e123 (s:ask123.T):evFn E0 (orcOf (fes123 c78)) an123 (loOf (les123 gl0)) 22 cd123 Tryz.f123.results.toList rm123 (ask123.mk' s) (decW rsk123 dec123)=B123 gl0 s.1.1:=by kernel_rfl
end
noncomputable def an201:Ann:=⟨[(3,[(3, .any),(9, .any),(10, .any),(11, .any)])],[],[]⟩
noncomputable def cd201:Code:=(Tryz.f201.body).getD .skip
noncomputable def p201:List Pos:=posns an201 [] cd201
noncomputable def rm201:List RM:=[.d (.li (.ag (.pr (.ag (.pr .bo .st)) .st)))]
noncomputable def rk201 (s0:SbT ask201.bl):KX R201:=retK E0 Tryz.f201.results.toList rm201 (mkB ask201.bl s0) (decW rsk201 dec201)
noncomputable def k201l0:Sk:=⟨[(3, .f (.a (.ref 3))),(9, .d (.li (.it .i64))),(10, .d (.it .i64)),(11, .d (.it .i64))],[(3, .own (.ag (.pr (.ag (.pr .bo .st)) .st)) true)]⟩
noncomputable def les201 (gl0:(List Int)→Int→Int→(List TQ)→Option R201):List (LoE R201):=[⟨3,k201l0,fun s=>gl0 s.1.1 s.1.2.1 s.1.2.2.1 s.2.1⟩]
noncomputable def fes201 (c122:Int→Option R122) (c123:(List TQ)→Option R123):List FE:=[(fe122 c122),(fe123 c123)]
section
variable (gl0:(List Int)→Int→Int→(List TQ)→Option R201) (c122:Int→Option R122) (c123:(List TQ)→Option R123)
noncomputable def B201l0 (x9:(List Int)) (x10:Int) (x11:Int) (x3:(List TQ)):Option R201:=if x11<x10 then(if 0≤x11 then(if x11<(x9.length:Int)then((c122 (rd x9 x11)).bind fun r1=>(if 0≤x11 then(if x11<(x3.length:Int)then(gl0 x9 x10 (wrap64 (x11+1)) (x3.set (x11:Int).toNat (r1.1,r1.2)))else(none))else(none)))else(none))else(none))else((c123 x3).bind fun r2=>(some r2))
theorem e201l0 (s0:SbT ask201.bl) (s:k201l0.T):evPos E0 (orcOf (fes201 c122 c123)) 24 an201 (loOf (les201 gl0)) (rk201 s0) (p201.getD 0 ⟨0,[], .skip⟩) (k201l0.mk' s)=B201l0 gl0 c122 c123 s.1.1 s.1.2.1 s.1.2.2.1 s.2.1:=by kernel_rfl
noncomputable def B201 (x0:(List Int)):Option R201:=if 0≤(x0.length:Int)then(if(x0.length:Int)≤(x0.length:Int)then(if((x0.length:Int):Int).toNat≤7036874417766 then(gl0 x0 (x0.length:Int) 0 (List.replicate ((x0.length:Int):Int).toNat ((false,(⟨#[]⟩:ByteArray)),(⟨#[]⟩:ByteArray))))else(none))else(none))else(none)
theorem e201 (s:ask201.T):evFn E0 (orcOf (fes201 c122 c123)) an201 (loOf (les201 gl0)) 24 cd201 Tryz.f201.results.toList rm201 (ask201.mk' s) (decW rsk201 dec201)=B201 gl0 s.1.1:=by kernel_rfl
end
noncomputable def an268n:Ann:=⟨[],[],[]⟩
noncomputable def cd268n:Code:=(Tryz.f268.body).getD .skip
noncomputable def rm268n:List RM:=[.own (.it .i64)]
noncomputable def les268n:List (LoE R268n):=[]
noncomputable def fes268n:List FE:=[]
noncomputable def B268n (x0:(List Int)):Option R268n:=some ([]:List Int)
theorem e268n (s:ask268n.T):evFn E0 (orcOf (fes268n)) an268n (loOf (les268n)) 8 cd268n Tryz.f268.results.toList rm268n (ask268n.mk' s) (decW rsk268n dec268n)=B268n s.1.1:=by kernel_rfl
noncomputable def an268m:Ann:=⟨[],[],[]⟩
noncomputable def cd268m:Code:=(Tryz.f268.body).getD .skip
noncomputable def rm268m:List RM:=[.own (.it .i64)]
noncomputable def les268m:List (LoE R268m):=[]
noncomputable def fes268m:List FE:=[]
noncomputable def B268m (x0:(List Int)):Option R268m:=if(([]:List Int).length+x0.length)*8≤140737488355328 then(some (([]:List Int)++x0))else(none)
theorem e268m (s:ask268m.T):evFn E0 (orcOf (fes268m)) an268m (loOf (les268m)) 8 cd268m Tryz.f268.results.toList rm268m (ask268m.mk' s) (decW rsk268m dec268m)=B268m s.1.1:=by kernel_rfl
noncomputable def an240:Ann:=⟨[(2,[(0, .val (.li (.it .i64))),(13, .any),(14, .any),(15, .any)]),(7,[(6, .any),(7, .any),(8, .any),(9, .any),(10, .any),(13, .any),(14, .any),(15, .any)]),(11,[(6, .any),(7, .any),(8, .any),(9, .any),(10, .any),(13, .any),(14, .any),(15, .any),(45, .any),(46, .any),(47, .any)])],[],[]⟩
noncomputable def cd240:Code:=(Tryz.f240.body).getD .skip
noncomputable def p240:List Pos:=posns an240 [] cd240
noncomputable def rm240:List RM:=[.d (.li (.it .i64))]
noncomputable def rk240 (s0:SbT ask240.bl):KX R240:=retK E0 Tryz.f240.results.toList rm240 (mkB ask240.bl s0) (decW rsk240 dec240)
noncomputable def k240l0:Sk:=⟨[(0, .d (.li (.it .i64))),(13, .d (.li (.li (.it .i64)))),(14, .d (.it .i64)),(15, .d (.it .i64))],[]⟩
noncomputable def k240l1:Sk:=⟨[(6, .d (.li (.it .i64))),(7, .f (.a (.ref 7))),(8, .d (.it .i64)),(9, .f (.a (.ref 9))),(10, .d (.it .i64)),(13, .d (.li (.li (.it .i64)))),(14, .d (.it .i64)),(15, .d (.it .i64))],[(7, .own (.it .i64) true),(9, .own (.it .i64) true)]⟩
noncomputable def k240l2:Sk:=⟨[(6, .d (.li (.it .i64))),(7, .f (.a (.ref 7))),(8, .d (.it .i64)),(9, .f (.a (.ref 9))),(10, .d (.it .i64)),(13, .d (.li (.li (.it .i64)))),(14, .d (.it .i64)),(15, .d (.it .i64)),(45, .d (.li (.it .i64))),(46, .d (.it .i64)),(47, .d (.it .i64))],[(7, .own (.it .i64) true),(9, .own (.it .i64) true)]⟩
noncomputable def les240 (gl0:(List Int)→(List (List Int))→Int→Int→Option R240) (gl1:(List Int)→Int→Int→(List (List Int))→Int→Int→(List Int)→(List Int)→Option R240) (gl2:(List Int)→Int→Int→(List (List Int))→Int→Int→(List Int)→Int→Int→(List Int)→(List Int)→Option R240):List (LoE R240):=[⟨2,k240l0,fun s=>gl0 s.1.1 s.1.2.1 s.1.2.2.1 s.1.2.2.2.1⟩,⟨7,k240l1,fun s=>gl1 s.1.1 s.1.2.1 s.1.2.2.1 s.1.2.2.2.1 s.1.2.2.2.2.1 s.1.2.2.2.2.2.1 s.2.1 s.2.2.1⟩,⟨11,k240l2,fun s=>gl2 s.1.1 s.1.2.1 s.1.2.2.1 s.1.2.2.2.1 s.1.2.2.2.2.1 s.1.2.2.2.2.2.1 s.1.2.2.2.2.2.2.1 s.1.2.2.2.2.2.2.2.1 s.1.2.2.2.2.2.2.2.2.1 s.2.1 s.2.2.1⟩]
noncomputable def fes240 (c268:(List Int)→Option R268):List FE:=[(fe268 c268)]
section
variable (gl0:(List Int)→(List (List Int))→Int→Int→Option R240) (gl1:(List Int)→Int→Int→(List (List Int))→Int→Int→(List Int)→(List Int)→Option R240) (gl2:(List Int)→Int→Int→(List (List Int))→Int→Int→(List Int)→Int→Int→(List Int)→(List Int)→Option R240) (c268:(List Int)→Option R268)
noncomputable def B240l0 (x0:(List Int)) (x13:(List (List Int))) (x14:Int) (x15:Int):Option R240:=if x15<x14 then(if 0≤x15 then(if x15<(x13.length:Int)then((c268 x0).bind fun r1=>(if 0≤wrap64 ((x0.length:Int)-(wrap64 (((rdOf ([]:List Int) x13 x15).length:Int)-1)))then(if wrap64 ((x0.length:Int)-(wrap64 (((rdOf ([]:List Int) x13 x15).length:Int)-1)))≤wrap64 ((x0.length:Int)-(wrap64 (((rdOf ([]:List Int) x13 x15).length:Int)-1)))then(if(wrap64 ((x0.length:Int)-(wrap64 (((rdOf ([]:List Int) x13 x15).length:Int)-1))):Int).toNat≤35184372088832 then(gl1 (rdOf ([]:List Int) x13 x15) (wrap64 (((rdOf ([]:List Int) x13 x15).length:Int)-1)) (wrap64 (((List.replicate (wrap64 ((x0.length:Int)-(wrap64 (((rdOf ([]:List Int) x13 x15).length:Int)-1))):Int).toNat (0:Int)).length:Int)-1)) x13 x14 x15 r1 (List.replicate (wrap64 ((x0.length:Int)-(wrap64 (((rdOf ([]:List Int) x13 x15).length:Int)-1))):Int).toNat (0:Int)))else(none))else(none))else(none)))else(none))else(none))else(some x0)
theorem e240l0 (s0:SbT ask240.bl) (s:k240l0.T):evPos E0 (orcOf (fes240 c268)) 70 an240 (loOf (les240 gl0 gl1 gl2)) (rk240 s0) (p240.getD 0 ⟨0,[], .skip⟩) (k240l0.mk' s)=B240l0 gl1 c268 s.1.1 s.1.2.1 s.1.2.2.1 s.1.2.2.2.1:=by kernel_rfl
noncomputable def B240l1 (x6:(List Int)) (x8:Int) (x10:Int) (x13:(List (List Int))) (x14:Int) (x15:Int) (x7:(List Int)) (x9:(List Int)):Option R240:=if x10≥0 then(if 0≤wrap64 (x10+x8)then(if wrap64 (x10+x8)<(x7.length:Int)then(if 0≤x10 then(if x10<(x9.length:Int)then(gl2 x6 x8 x10 x13 x14 x15 x6 (x6.length:Int) 0 x7 (x9.set (x10:Int).toNat (rd x7 (wrap64 (x10+x8)))))else(none))else(none))else(none))else(none))else(gl0 x9 x13 x14 (wrap64 (x15+1)))
theorem e240l1 (s0:SbT ask240.bl) (s:k240l1.T):evPos E0 (orcOf (fes240 c268)) 70 an240 (loOf (les240 gl0 gl1 gl2)) (rk240 s0) (p240.getD 1 ⟨0,[], .skip⟩) (k240l1.mk' s)=B240l1 gl0 gl2 s.1.1 s.1.2.1 s.1.2.2.1 s.1.2.2.2.1 s.1.2.2.2.2.1 s.1.2.2.2.2.2.1 s.2.1 s.2.2.1:=by kernel_rfl
noncomputable def B240l2 (x6:(List Int)) (x8:Int) (x10:Int) (x13:(List (List Int))) (x14:Int) (x15:Int) (x45:(List Int)) (x46:Int) (x47:Int) (x7:(List Int)) (x9:(List Int)):Option R240:=if x47<x46 then(if 0≤x47 then(if x47<(x45.length:Int)then(if 0≤wrap64 (x10+x47)then(if wrap64 (x10+x47)<(x7.length:Int)then(if 0≤x10 then(if x10<(x9.length:Int)then(if 0≤wrap64 (x10+x47)then(if wrap64 (x10+x47)<(x7.length:Int)then(gl2 x6 x8 x10 x13 x14 x15 x45 x46 (wrap64 (x47+1)) (x7.set (wrap64 (x10+x47):Int).toNat (wrap64 ((rd x7 (wrap64 (x10+x47)))-(wrap64 ((rd x9 x10)*(rd x45 x47)))))) x9)else(none))else(none))else(none))else(none))else(none))else(none))else(none))else(none))else(gl1 x6 x8 (wrap64 (x10-1)) x13 x14 x15 x7 x9)
theorem e240l2 (s0:SbT ask240.bl) (s:k240l2.T):evPos E0 (orcOf (fes240 c268)) 70 an240 (loOf (les240 gl0 gl1 gl2)) (rk240 s0) (p240.getD 2 ⟨0,[], .skip⟩) (k240l2.mk' s)=B240l2 gl1 gl2 s.1.1 s.1.2.1 s.1.2.2.1 s.1.2.2.2.1 s.1.2.2.2.2.1 s.1.2.2.2.2.2.1 s.1.2.2.2.2.2.2.1 s.1.2.2.2.2.2.2.2.1 s.1.2.2.2.2.2.2.2.2.1 s.2.1 s.2.2.1:=by kernel_rfl
noncomputable def B240 (x0:(List Int)) (x1:(List (List Int))):Option R240:=gl0 x0 x1 (x1.length:Int) 0
theorem e240 (s:ask240.T):evFn E0 (orcOf (fes240 c268)) an240 (loOf (les240 gl0 gl1 gl2)) 70 cd240 Tryz.f240.results.toList rm240 (ask240.mk' s) (decW rsk240 dec240)=B240 gl0 s.1.1 s.1.2.1:=by kernel_rfl
end
noncomputable def an202:Ann:=⟨[(5,[(0, .any),(3, .any),(4, .own (.li (.it .i64))),(5, .any)])],[],[]⟩
noncomputable def cd202:Code:=(Tryz.f202.body).getD .skip
noncomputable def p202:List Pos:=posns an202 [] cd202
noncomputable def rm202:List RM:=[.d (.li (.it .i64))]
noncomputable def rk202 (s0:SbT ask202.bl):KX R202:=retK E0 Tryz.f202.results.toList rm202 (mkB ask202.bl s0) (decW rsk202 dec202)
noncomputable def k202l0:Sk:=⟨[(0, .d (.it .i64)),(3, .f (.a (.ref 3))),(4, .f (.a (.ref 4))),(5, .d (.it .i64))],[(3, .own (.it .i64) true),(4, .own (.li (.it .i64)) true)]⟩
noncomputable def les202 (gl0:Int→Int→(List Int)→(List (List Int))→Option R202):List (LoE R202):=[⟨5,k202l0,fun s=>gl0 s.1.1 s.1.2.1 s.2.1 s.2.2.1⟩]
noncomputable def fes202 (c202:Int→Option R202) (c240:(List Int)→(List (List Int))→Option R240):List FE:=[(fe202 c202),(fe240 c240)]
section
variable (gl0:Int→Int→(List Int)→(List (List Int))→Option R202) (c202:Int→Option R202) (c240:(List Int)→(List (List Int))→Option R240)
noncomputable def B202l0 (x0:Int) (x5:Int) (x3:(List Int)) (x4:(List (List Int))):Option R202:=if x5<x0 then(if x5=0 then(none)else(if Int.tmod x0 x5=0 then((c202 x5).bind fun r1=>(if(x4.length+1)*24≤140737488355328 then(gl0 x0 (wrap64 (x5+1)) x3 (x4++([r1]:List (List Int))))else(none)))else(gl0 x0 (wrap64 (x5+1)) x3 x4)))else((c240 x3 x4).bind fun r2=>(some r2))
theorem e202l0 (s0:SbT ask202.bl) (s:k202l0.T):evPos E0 (orcOf (fes202 c202 c240)) 31 an202 (loOf (les202 gl0)) (rk202 s0) (p202.getD 0 ⟨0,[], .skip⟩) (k202l0.mk' s)=B202l0 gl0 c202 c240 s.1.1 s.1.2.1 s.2.1 s.2.2.1:=by kernel_rfl
noncomputable def B202 (x0:Int):Option R202:=if 0≤wrap64 (x0+1)then(if wrap64 (x0+1)≤wrap64 (x0+1)then(if(wrap64 (x0+1):Int).toNat≤35184372088832 then(if(0:Int)≤0 then(if 0<((List.replicate (wrap64 (x0+1):Int).toNat (0:Int)).length:Int)then(if 0≤x0 then(if x0<(((List.replicate (wrap64 (x0+1):Int).toNat (0:Int)).set (0:Int).toNat (-1)).length:Int)then(gl0 x0 1 (((List.replicate (wrap64 (x0+1):Int).toNat (0:Int)).set (0:Int).toNat (-1)).set (x0:Int).toNat 1) ([]:List (List Int)))else(none))else(none))else(none))else(none))else(none))else(none))else(none)
theorem e202 (s:ask202.T):evFn E0 (orcOf (fes202 c202 c240)) an202 (loOf (les202 gl0)) 31 cd202 Tryz.f202.results.toList rm202 (ask202.mk' s) (decW rsk202 dec202)=B202 gl0 s.1.1:=by kernel_rfl
end
noncomputable def an117:Ann:=⟨[],[],[]⟩
noncomputable def cd117:Code:=(Tryz.f117.body).getD .skip
noncomputable def rm117:List RM:=[.d (.ag (.li (.ag (.pr (.ag (.pr .bo .st)) .st))))]
noncomputable def les117:List (LoE R117):=[]
noncomputable def fes117 (c201:(List Int)→Option R201) (c202:Int→Option R202):List FE:=[(fe201 c201),(fe202 c202)]
section
variable (c201:(List Int)→Option R201) (c202:Int→Option R202)
noncomputable def B117 (x0:Int):Option R117:=(c202 x0).bind fun r1=>((c201 r1).bind fun r2=>(some r2))
theorem e117 (s:ask117.T):evFn E0 (orcOf (fes117 c201 c202)) an117 (loOf (les117)) 7 cd117 Tryz.f117.results.toList rm117 (ask117.mk' s) (decW rsk117 dec117)=B117 c201 c202 s.1.1:=by kernel_rfl
end
noncomputable def an43:Ann:=⟨[],[],[]⟩
noncomputable def cd43:Code:=(Tryz.f43.body).getD .skip
noncomputable def rm43:List RM:=[.d (.ag (.li (.ag (.pr (.ag (.pr .bo .st)) .st)))), .d (.it .i64)]
noncomputable def les43:List (LoE R43):=[]
noncomputable def fes43 (c115:Int→(List Int)→Option R115) (c117:Int→Option R117):List FE:=[(fe115 c115),(fe117 c117)]
section
variable (c115:Int→(List Int)→Option R115) (c117:Int→Option R117)
noncomputable def B43 (x0:Int):Option R43:=(c115 24 ([x0]:List Int)).bind fun r1=>(if r1≠0 then(some (([]:List TQ),r1))else((c117 x0).bind fun r2=>(some (r2,0))))
theorem e43 (s:ask43.T):evFn E0 (orcOf (fes43 c115 c117)) an43 (loOf (les43)) 14 cd43 Tryz.f43.results.toList rm43 (ask43.mk' s) (decW rsk43 dec43)=B43 c115 c117 s.1.1:=by kernel_rfl
end
noncomputable def an180:Ann:=⟨[(3,[(0, .any),(3, .own (.it .u8)),(4, .any)]),(6,[(0, .any),(3, .own (.it .u8)),(4, .any),(5, .any)])],[],[]⟩
noncomputable def cd180:Code:=(Tryz.f180.body).getD .skip
noncomputable def p180:List Pos:=posns an180 [] cd180
noncomputable def rm180:List RM:=[.d .st]
noncomputable def rk180 (s0:SbT ask180.bl):KX R180:=retK E0 Tryz.f180.results.toList rm180 (mkB ask180.bl s0) (decW rsk180 dec180)
noncomputable def k180l0:Sk:=⟨[(0, .d (.li (.it .u64))),(3, .f (.a (.ref 3))),(4, .d (.it .i64))],[(3, .own (.it .u8) true)]⟩
noncomputable def k180l1:Sk:=⟨[(0, .d (.li (.it .u64))),(3, .f (.a (.ref 3))),(4, .d (.it .i64)),(5, .d (.it .i64))],[(3, .own (.it .u8) true)]⟩
noncomputable def les180 (gl0:(List Int)→Int→(List Int)→Option R180) (gl1:(List Int)→Int→Int→(List Int)→Option R180):List (LoE R180):=[⟨3,k180l0,fun s=>gl0 s.1.1 s.1.2.1 s.2.1⟩,⟨6,k180l1,fun s=>gl1 s.1.1 s.1.2.1 s.1.2.2.1 s.2.1⟩]
noncomputable def fes180:List FE:=[]
section
variable (gl0:(List Int)→Int→(List Int)→Option R180) (gl1:(List Int)→Int→Int→(List Int)→Option R180)
noncomputable def B180l0 (x0:(List Int)) (x4:Int) (x3:(List Int)):Option R180:=if x4≥0 then(gl1 x0 x4 24 x3)else(some (strOfNums x3))
theorem e180l0 (s0:SbT ask180.bl) (s:k180l0.T):evPos E0 (orcOf (fes180)) 38 an180 (loOf (les180 gl0 gl1)) (rk180 s0) (p180.getD 0 ⟨0,[], .skip⟩) (k180l0.mk' s)=B180l0 gl1 s.1.1 s.1.2.1 s.2.1:=by kernel_rfl
noncomputable def B180l1 (x0:(List Int)) (x4:Int) (x5:Int) (x3:(List Int)):Option R180:=if x5≥0 then(if 0≤x4 then(if x4<(x0.length:Int)then(if 0≤x5 then(if(x3.length:Int)>0 then(if(x3.length+1)*1≤140737488355328 then(gl1 x0 x4 (wrap64 (x5-8)) (x3++([IntKind.u8.wrap (shr .u64 (rd x0 x4) x5)]:List Int)))else(none))else(if IntKind.u8.wrap (shr .u64 (rd x0 x4) x5)>0 then(if(x3.length+1)*1≤140737488355328 then(gl1 x0 x4 (wrap64 (x5-8)) (x3++([IntKind.u8.wrap (shr .u64 (rd x0 x4) x5)]:List Int)))else(none))else(gl1 x0 x4 (wrap64 (x5-8)) x3)))else(none))else(none))else(none))else(gl0 x0 (wrap64 (x4-1)) x3)
theorem e180l1 (s0:SbT ask180.bl) (s:k180l1.T):evPos E0 (orcOf (fes180)) 38 an180 (loOf (les180 gl0 gl1)) (rk180 s0) (p180.getD 1 ⟨0,[], .skip⟩) (k180l1.mk' s)=B180l1 gl0 gl1 s.1.1 s.1.2.1 s.1.2.2.1 s.2.1:=by kernel_rfl
noncomputable def B180 (x0:(List Int)):Option R180:=gl0 x0 (wrap64 ((x0.length:Int)-1)) ([]:List Int)
theorem e180 (s:ask180.T):evFn E0 (orcOf (fes180)) an180 (loOf (les180 gl0 gl1)) 38 cd180 Tryz.f180.results.toList rm180 (ask180.mk' s) (decW rsk180 dec180)=B180 gl0 s.1.1:=by kernel_rfl
end
noncomputable def an93:Ann:=⟨[],[],[]⟩
noncomputable def cd93:Code:=(Tryz.f93.body).getD .skip
noncomputable def rm93:List RM:=[.d .st]
noncomputable def les93:List (LoE R93):=[]
noncomputable def fes93 (c180:(List Int)→Option R180):List FE:=[(fe180 c180)]
section
variable (c180:(List Int)→Option R180)
noncomputable def B93 (x0:Int):Option R93:=if(0:Int)≤32 then((c180 ([Go.bits .and .u64 x0 4294967295,x0/4294967296]:List Int)).bind fun r1=>(some r1))else(none)
theorem e93 (s:ask93.T):evFn E0 (orcOf (fes93 c180)) an93 (loOf (les93)) 9 cd93 Tryz.f93.results.toList rm93 (ask93.mk' s) (decW rsk93 dec93)=B93 c180 s.1.1:=by kernel_rfl
end
noncomputable def an25:Ann:=⟨[],[],[]⟩
noncomputable def cd25:Code:=(Tryz.f25.body).getD .skip
noncomputable def rm25:List RM:=[.d (.ag (.pr .bo .st))]
noncomputable def les25:List (LoE R25):=[]
noncomputable def fes25 (c93:Int→Option R93):List FE:=[(fe93 c93)]
section
variable (c93:Int→Option R93)
noncomputable def B25 (x0:Int):Option R25:=if x0<0 then((c93 (IntKind.u64.wrap ((IntKind.u64.wrap (wrap64 (0-(wrap64 (x0+1)))))+1))).bind fun r1=>(some (true,r1)))else((c93 (IntKind.u64.wrap (x0))).bind fun r2=>(some (false,r2)))
theorem e25 (s:ask25.T):evFn E0 (orcOf (fes25 c93)) an25 (loOf (les25)) 16 cd25 Tryz.f25.results.toList rm25 (ask25.mk' s) (decW rsk25 dec25)=B25 c93 s.1.1:=by kernel_rfl
end
noncomputable def an14:Ann:=⟨[],[],[]⟩
noncomputable def cd14:Code:=(Tryz.f14.body).getD .skip
noncomputable def rm14:List RM:=[.d (.ag (.pr (.ag (.pr .bo .st)) .st))]
noncomputable def les14:List (LoE R14):=[]
noncomputable def fes14 (c25:Int→Option R25):List FE:=[(fe25 c25)]
section
variable (c25:Int→Option R25)
noncomputable def B14 (x0:Int):Option R14:=(c25 x0).bind fun r1=>(some ((r1.1,r1.2),(⟨#[1]⟩:ByteArray)))
theorem e14 (s:ask14.T):evFn E0 (orcOf (fes14 c25)) an14 (loOf (les14)) 6 cd14 Tryz.f14.results.toList rm14 (ask14.mk' s) (decW rsk14 dec14)=B14 c25 s.1.1:=by kernel_rfl
end
noncomputable def an248:Ann:=⟨[],[],[]⟩
noncomputable def cd248:Code:=(Tryz.f248.body).getD .skip
noncomputable def rm248:List RM:=[.d (.it .i64)]
noncomputable def les248:List (LoE R248):=[]
noncomputable def fes248:List FE:=[]
noncomputable def B248 (x0:TI):Option R248:=cnd (x0.1) (some (-1)) (cnd ((eqS x0.2 (⟨#[]⟩:ByteArray))) (some 0) (some 1))
theorem e248 (s:ask248.T):evFn E0 (orcOf (fes248)) an248 (loOf (les248)) 10 cd248 Tryz.f248.results.toList rm248 (ask248.mk' s) (decW rsk248 dec248)=B248 s.1.1:=by kernel_rfl
noncomputable def an213:Ann:=⟨[],[],[]⟩
noncomputable def cd213:Code:=(Tryz.f213.body).getD .skip
noncomputable def rm213:List RM:=[.d (.it .i64)]
noncomputable def les213:List (LoE R213):=[]
noncomputable def fes213 (c248:TI→Option R248):List FE:=[(fe248 c248)]
section
variable (c248:TI→Option R248)
noncomputable def B213 (x0:TQ):Option R213:=(c248 x0.1).bind fun r1=>(some r1)
theorem e213 (s:ask213.T):evFn E0 (orcOf (fes213 c248)) an213 (loOf (les213)) 6 cd213 Tryz.f213.results.toList rm213 (ask213.mk' s) (decW rsk213 dec213)=B213 c248 s.1.1:=by kernel_rfl
end
noncomputable def an132:Ann:=⟨[(2,[(0, .any),(3, .any)])],[],[]⟩
noncomputable def cd132:Code:=(Tryz.f132.body).getD .skip
noncomputable def p132:List Pos:=posns an132 [] cd132
noncomputable def rm132:List RM:=[.d (.li (.ag (.pr (.ag (.pr .bo .st)) .st)))]
noncomputable def rk132 (s0:SbT ask132.bl):KX R132:=retK E0 Tryz.f132.results.toList rm132 (mkB ask132.bl s0) (decW rsk132 dec132)
noncomputable def k132l0:Sk:=⟨[(0, .d (.li (.ag (.pr (.ag (.pr .bo .st)) .st)))),(3, .d (.it .i64))],[]⟩
noncomputable def les132 (gl0:(List TQ)→Int→Option R132):List (LoE R132):=[⟨2,k132l0,fun s=>gl0 s.1.1 s.1.2.1⟩]
noncomputable def fes132 (c213:TQ→Option R213):List FE:=[(fe213 c213)]
section
variable (gl0:(List TQ)→Int→Option R132) (c213:TQ→Option R213)
noncomputable def B132l0 (x0:(List TQ)) (x3:Int):Option R132:=if x3>0 then(if 0≤wrap64 (x3-1)then(if wrap64 (x3-1)<(x0.length:Int)then((c213 (rdOf ((false,(⟨#[]⟩:ByteArray)),(⟨#[]⟩:ByteArray)) x0 (wrap64 (x3-1)))).bind fun r1=>(if r1=0 then(gl0 x0 (wrap64 (x3-1)))else(if(0:Int)≤0 then(if 0≤x3 then(if x3≤(x0.length:Int)then(if(x0.length:Int)≤(x0.length:Int)then(if(([]:List TQ).length+(slice_ x0 0 x3).length)*40≤140737488355328 then(some (([]:List TQ)++(slice_ x0 0 x3)))else(none))else(none))else(none))else(none))else(none))))else(none))else(none))else(if(0:Int)≤0 then(if 0≤x3 then(if x3≤(x0.length:Int)then(if(x0.length:Int)≤(x0.length:Int)then(if(([]:List TQ).length+(slice_ x0 0 x3).length)*40≤140737488355328 then(some (([]:List TQ)++(slice_ x0 0 x3)))else(none))else(none))else(none))else(none))else(none))
theorem e132l0 (s0:SbT ask132.bl) (s:k132l0.T):evPos E0 (orcOf (fes132 c213)) 24 an132 (loOf (les132 gl0)) (rk132 s0) (p132.getD 0 ⟨0,[], .skip⟩) (k132l0.mk' s)=B132l0 gl0 c213 s.1.1 s.1.2.1:=by kernel_rfl
noncomputable def B132 (x0:(List TQ)):Option R132:=gl0 x0 (x0.length:Int)
theorem e132 (s:ask132.T):evFn E0 (orcOf (fes132 c213)) an132 (loOf (les132 gl0)) 24 cd132 Tryz.f132.results.toList rm132 (ask132.mk' s) (decW rsk132 dec132)=B132 gl0 s.1.1:=by kernel_rfl
end
noncomputable def an46:Ann:=⟨[(3,[(3, .own (.ag (.pr (.ag (.pr .bo .st)) .st))),(6, .any),(7, .any),(8, .any)])],[],[]⟩
noncomputable def cd46:Code:=(Tryz.f46.body).getD .skip
noncomputable def p46:List Pos:=posns an46 [] cd46
noncomputable def rm46:List RM:=[.d (.li (.ag (.pr (.ag (.pr .bo .st)) .st)))]
noncomputable def rk46 (s0:SbT ask46.bl):KX R46:=retK E0 Tryz.f46.results.toList rm46 (mkB ask46.bl s0) (decW rsk46 dec46)
noncomputable def k46l0:Sk:=⟨[(3, .f (.a (.ref 3))),(6, .d (.li (.it .i64))),(7, .d (.it .i64)),(8, .d (.it .i64))],[(3, .own (.ag (.pr (.ag (.pr .bo .st)) .st)) true)]⟩
noncomputable def les46 (gl0:(List Int)→Int→Int→(List TQ)→Option R46):List (LoE R46):=[⟨3,k46l0,fun s=>gl0 s.1.1 s.1.2.1 s.1.2.2.1 s.2.1⟩]
noncomputable def fes46 (c14:Int→Option R14) (c132:(List TQ)→Option R132):List FE:=[(fe14 c14),(fe132 c132)]
section
variable (gl0:(List Int)→Int→Int→(List TQ)→Option R46) (c14:Int→Option R14) (c132:(List TQ)→Option R132)
noncomputable def B46l0 (x6:(List Int)) (x7:Int) (x8:Int) (x3:(List TQ)):Option R46:=if x8<x7 then(if 0≤x8 then(if x8<(x6.length:Int)then((c14 (rd x6 x8)).bind fun r1=>(if(x3.length+1)*40≤140737488355328 then(gl0 x6 x7 (wrap64 (x8+1)) (x3++([(r1.1,r1.2)]:List TQ)))else(none)))else(none))else(none))else((c132 x3).bind fun r2=>(some r2))
theorem e46l0 (s0:SbT ask46.bl) (s:k46l0.T):evPos E0 (orcOf (fes46 c14 c132)) 20 an46 (loOf (les46 gl0)) (rk46 s0) (p46.getD 0 ⟨0,[], .skip⟩) (k46l0.mk' s)=B46l0 gl0 c14 c132 s.1.1 s.1.2.1 s.1.2.2.1 s.2.1:=by kernel_rfl
noncomputable def B46 (x0:(List Int)):Option R46:=gl0 x0 (x0.length:Int) 0 ([]:List TQ)
theorem e46 (s:ask46.T):evFn E0 (orcOf (fes46 c14 c132)) an46 (loOf (les46 gl0)) 20 cd46 Tryz.f46.results.toList rm46 (ask46.mk' s) (decW rsk46 dec46)=B46 gl0 s.1.1:=by kernel_rfl
end
noncomputable def an253:Ann:=⟨[(1,[(0, .pt)])],[],[]⟩
noncomputable def cd253:Code:=(Tryz.f253.body).getD .skip
noncomputable def p253:List Pos:=posns an253 [] cd253
noncomputable def rm253:List RM:=[.sh]
noncomputable def rk253 (s0:SbT ask253.bl):KX R253:=retK E0 Tryz.f253.results.toList rm253 (mkB ask253.bl s0) (decW rsk253 dec253)
noncomputable def k253l0:Sk:=⟨[(0, .pre 2000)],[(2000, .own (.it .u64) false)]⟩
noncomputable def les253 (gl0:Int→(List Int)→Option R253):List (LoE R253):=[⟨1,k253l0,fun s=>gl0 s.1.1 s.2.1⟩]
noncomputable def fes253:List FE:=[]
section
variable (gl0:Int→(List Int)→Option R253)
noncomputable def B253l0 (x0:Int) (y0:(List Int)):Option R253:=if x0-0>0 then(if 0≤wrap64 ((x0-0)-1)then(if wrap64 ((x0-0)-1)<x0-0 then(if rd y0 (0+(wrap64 ((x0-0)-1)))=0 then(if(0:Int)≤0 then(if 0≤wrap64 ((x0-0)-1)then(if wrap64 ((x0-0)-1)≤x0-0 then(if x0-0≤x0-0 then(gl0 (0+(wrap64 ((x0-0)-1))) y0)else(none))else(none))else(none))else(none))else(some (x0,y0)))else(none))else(none))else(some (x0,y0))
theorem e253l0 (s0:SbT ask253.bl) (s:k253l0.T):evPos E0 (orcOf (fes253)) 21 an253 (loOf (les253 gl0)) (rk253 s0) (p253.getD 0 ⟨0,[], .skip⟩) (k253l0.mk' s)=B253l0 gl0 s.1.1 s.2.1:=by kernel_rfl
noncomputable def B253 (y0:(List Int)):Option R253:=gl0 (y0.length:Int) y0
theorem e253 (s:ask253.T):evFn E0 (orcOf (fes253)) an253 (loOf (les253 gl0)) 21 cd253 Tryz.f253.results.toList rm253 (ask253.mk' s) (decW rsk253 dec253)=B253 gl0 s.2.1:=by kernel_rfl
end
noncomputable def an221:Ann:=⟨[(3,[(0, .any),(3, .own (.it .u64)),(4, .any)]),(7,[(0, .any),(3, .any),(4, .any),(5, .any),(6, .any)])],[],[]⟩
noncomputable def cd221:Code:=(Tryz.f221.body).getD .skip
noncomputable def p221:List Pos:=posns an221 [] cd221
noncomputable def rm221:List RM:=[.own (.it .u64)]
noncomputable def rk221 (s0:SbT ask221.bl):KX R221:=retK E0 Tryz.f221.results.toList rm221 (mkB ask221.bl s0) (decW rsk221 dec221)
noncomputable def k221l0:Sk:=⟨[(0, .d .st),(3, .f (.a (.ref 3))),(4, .d (.it .i64))],[(3, .own (.it .u64) true)]⟩
noncomputable def k221l1:Sk:=⟨[(0, .d .st),(3, .f (.a (.ref 3))),(4, .d (.it .i64)),(5, .d (.it .u64)),(6, .d (.it .i64))],[(3, .own (.it .u64) true)]⟩
noncomputable def les221 (gl0:ByteArray→Int→(List Int)→Option R221) (gl1:ByteArray→Int→Int→Int→(List Int)→Option R221):List (LoE R221):=[⟨3,k221l0,fun s=>gl0 s.1.1 s.1.2.1 s.2.1⟩,⟨7,k221l1,fun s=>gl1 s.1.1 s.1.2.1 s.1.2.2.1 s.1.2.2.2.1 s.2.1⟩]
noncomputable def fes221 (c253:(List Int)→Option R253):List FE:=[(fe253 c253)]
section
variable (gl0:ByteArray→Int→(List Int)→Option R221) (gl1:ByteArray→Int→Int→Int→(List Int)→Option R221) (c253:(List Int)→Option R253)
noncomputable def B221l0 (x0:ByteArray) (x4:Int) (x3:(List Int)):Option R221:=if x4>0 then(gl1 x0 x4 0 (mx 0 (wrap64 (x4-4))) x3)else((c253 x3).bind fun r1=>(some (r1.2.take (r1.1:Int).toNat)))
theorem e221l0 (s0:SbT ask221.bl) (s:k221l0.T):evPos E0 (orcOf (fes221 c253)) 34 an221 (loOf (les221 gl0 gl1)) (rk221 s0) (p221.getD 0 ⟨0,[], .skip⟩) (k221l0.mk' s)=B221l0 gl1 c253 s.1.1 s.1.2.1 s.2.1:=by kernel_rfl
noncomputable def B221l1 (x0:ByteArray) (x4:Int) (x5:Int) (x6:Int) (x3:(List Int)):Option R221:=if x6<x4 then(if 0≤x6 then(if x6<(x0.size:Int)then(gl1 x0 x4 (IntKind.u64.wrap ((IntKind.u64.wrap (x5*256))+(IntKind.u64.wrap (bt x0 x6)))) (wrap64 (x6+1)) x3)else(none))else(none))else(if(x3.length+1)*8≤140737488355328 then(gl0 x0 (wrap64 (x4-4)) (x3++([x5]:List Int)))else(none))
theorem e221l1 (s0:SbT ask221.bl) (s:k221l1.T):evPos E0 (orcOf (fes221 c253)) 34 an221 (loOf (les221 gl0 gl1)) (rk221 s0) (p221.getD 1 ⟨0,[], .skip⟩) (k221l1.mk' s)=B221l1 gl0 gl1 s.1.1 s.1.2.1 s.1.2.2.1 s.1.2.2.2.1 s.2.1:=by kernel_rfl
noncomputable def B221 (x0:ByteArray):Option R221:=gl0 x0 (x0.size:Int) ([]:List Int)
theorem e221 (s:ask221.T):evFn E0 (orcOf (fes221 c253)) an221 (loOf (les221 gl0 gl1)) 34 cd221 Tryz.f221.results.toList rm221 (ask221.mk' s) (decW rsk221 dec221)=B221 gl0 s.1.1:=by kernel_rfl
end
noncomputable def an222:Ann:=⟨[(5,[(0, .pt),(1, .any),(5, .any)])],[],[]⟩
noncomputable def cd222:Code:=(Tryz.f222.body).getD .skip
noncomputable def p222:List Pos:=posns an222 [] cd222
noncomputable def rm222:List RM:=[.d .bo]
noncomputable def rk222 (s0:SbT ask222.bl):KX R222:=retK E0 Tryz.f222.results.toList rm222 (mkB ask222.bl s0) (decW rsk222 dec222)
noncomputable def k222l0:Sk:=⟨[(0, .pre 2000),(1, .d (.li (.it .u64))),(5, .d (.it .i64))],[(2000, .own (.it .u64) false)]⟩
noncomputable def les222 (gl0:Int→(List Int)→Int→(List Int)→Option R222):List (LoE R222):=[⟨5,k222l0,fun s=>gl0 s.1.1 s.1.2.1 s.1.2.2.1 s.2.1⟩]
noncomputable def fes222 (c253:(List Int)→Option R253):List FE:=[(fe253 c253)]
section
variable (gl0:Int→(List Int)→Int→(List Int)→Option R222) (c253:(List Int)→Option R253)
noncomputable def B222l0 (x0:Int) (x1:(List Int)) (x5:Int) (y0:(List Int)):Option R222:=if x5≥0 then(if 0≤x5 then(if x5<x0-0 then(if 0≤x5 then(if x5<(x1.length:Int)then(if rd y0 (0+x5)≠rd x1 x5 then(if 0≤x5 then(if x5<x0-0 then(if 0≤x5 then(if x5<(x1.length:Int)then(some (decide (rd y0 (0+x5)<rd x1 x5),y0))else(none))else(none))else(none))else(none))else(gl0 x0 x1 (wrap64 (x5-1)) y0))else(none))else(none))else(none))else(none))else(some (false,y0))
theorem e222l0 (s0:SbT ask222.bl) (s:k222l0.T):evPos E0 (orcOf (fes222 c253)) 43 an222 (loOf (les222 gl0)) (rk222 s0) (p222.getD 0 ⟨0,[], .skip⟩) (k222l0.mk' s)=B222l0 gl0 s.1.1 s.1.2.1 s.1.2.2.1 s.2.1:=by kernel_rfl
noncomputable def B222 (x1:(List Int)) (y0:(List Int)):Option R222:=(c253 y0).bind fun r1=>(if r1.1-0≠(x1.length:Int)then(some (decide (r1.1-0<(x1.length:Int)),r1.2))else(gl0 r1.1 x1 (wrap64 ((r1.1-0)-1)) r1.2))
theorem e222 (s:ask222.T):evFn E0 (orcOf (fes222 c253)) an222 (loOf (les222 gl0)) 43 cd222 Tryz.f222.results.toList rm222 (ask222.mk' s) (decW rsk222 dec222)=B222 gl0 c253 s.1.1 s.2.1:=by kernel_rfl
end
noncomputable def an147:Ann:=⟨[(8,[(7, .val (.li (.it .u64))),(8, .any),(9, .any),(10, .any),(11, .any)]),(10,[(7, .any),(8, .any),(9, .any),(10, .any),(11, .any)]),(15,[(7, .val (.li (.it .u64))),(8, .any),(9, .any),(10, .any),(11, .any),(12, .any),(13, .any),(14, .any)])],[],[]⟩
noncomputable def cd147:Code:=(Tryz.f147.body).getD .skip
noncomputable def p147:List Pos:=posns an147 [] cd147
noncomputable def rm147:List RM:=[.d .st, .d .st]
noncomputable def rk147 (s0:SbT ask147.bl):KX R147:=retK E0 Tryz.f147.results.toList rm147 (mkB ask147.bl s0) (decW rsk147 dec147)
noncomputable def k147l0:Sk:=⟨[(7, .d (.li (.it .u64))),(8, .d (.it .i64)),(9, .f (.a (.ref 9))),(10, .f (.a (.ref 10))),(11, .d (.it .i64))],[(9, .own (.it .u64) true),(10, .own (.it .u64) true)]⟩
noncomputable def k147l1:Sk:=⟨[(7, .d (.li (.it .u64))),(8, .d (.it .i64)),(9, .f (.a (.ref 9))),(10, .f (.a (.ref 10))),(11, .d (.it .i64))],[(9, .own (.it .u64) true),(10, .own (.it .u64) true)]⟩
noncomputable def k147l2:Sk:=⟨[(7, .d (.li (.it .u64))),(8, .d (.it .i64)),(9, .f (.a (.ref 9))),(10, .f (.a (.ref 10))),(11, .d (.it .i64)),(12, .d (.it .u64)),(13, .d (.it .u64)),(14, .d (.it .i64))],[(9, .own (.it .u64) true),(10, .own (.it .u64) true)]⟩
noncomputable def les147 (gl0:(List Int)→Int→Int→(List Int)→(List Int)→Option R147) (gl1:(List Int)→Int→Int→(List Int)→(List Int)→Option R147) (gl2:(List Int)→Int→Int→Int→Int→Int→(List Int)→(List Int)→Option R147):List (LoE R147):=[⟨8,k147l0,fun s=>gl0 s.1.1 s.1.2.1 s.1.2.2.1 s.2.1 s.2.2.1⟩,⟨10,k147l1,fun s=>gl1 s.1.1 s.1.2.1 s.1.2.2.1 s.2.1 s.2.2.1⟩,⟨15,k147l2,fun s=>gl2 s.1.1 s.1.2.1 s.1.2.2.1 s.1.2.2.2.1 s.1.2.2.2.2.1 s.1.2.2.2.2.2.1 s.2.1 s.2.2.1⟩]
noncomputable def fes147 (c180:(List Int)→Option R180) (c221:ByteArray→Option R221) (c222:(List Int)→(List Int)→Option R222):List FE:=[(fe180 c180),(fe221 c221),(fe222 c222)]
section
variable (gl0:(List Int)→Int→Int→(List Int)→(List Int)→Option R147) (gl1:(List Int)→Int→Int→(List Int)→(List Int)→Option R147) (gl2:(List Int)→Int→Int→Int→Int→Int→(List Int)→(List Int)→Option R147) (c180:(List Int)→Option R180) (c221:ByteArray→Option R221) (c222:(List Int)→(List Int)→Option R222)
noncomputable def B147l0 (x7:(List Int)) (x8:Int) (x11:Int) (x9:(List Int)) (x10:(List Int)):Option R147:=if x11≥0 then(gl1 x7 x8 x11 x9 x10)else((c180 x10).bind fun r1=>((c180 x9).bind fun r2=>(some (r1,r2))))
theorem e147l0 (s0:SbT ask147.bl) (s:k147l0.T):evPos E0 (orcOf (fes147 c180 c221 c222)) 148 an147 (loOf (les147 gl0 gl1 gl2)) (rk147 s0) (p147.getD 0 ⟨0,[], .skip⟩) (k147l0.mk' s)=B147l0 gl1 c180 s.1.1 s.1.2.1 s.1.2.2.1 s.2.1 s.2.2.1:=by kernel_rfl
noncomputable def B147l1 (x7:(List Int)) (x8:Int) (x11:Int) (x9:(List Int)) (x10:(List Int)):Option R147:=if 0≤x11 then(if x11≤(x9.length:Int)then(if(x9.length:Int)≤(x9.length:Int)then(if(x9.length:Int)≤(x9.length:Int)then((c222 x7 (slice_ x9 x11 (x9.length:Int))).bind fun r1=>(cnd ((!r1.1)) (if 0≤wrap64 (x11+x8)then(if wrap64 (x11+x8)<((x9.take ((x11:Int).toNat)++r1.2++x9.drop (((x9.length:Int):Int).toNat)).length:Int)then(if(0:Int)≤32 then(if 0≤wrap64 ((wrap64 (x11+x8))-1)then(if wrap64 ((wrap64 (x11+x8))-1)<((x9.take ((x11:Int).toNat)++r1.2++x9.drop (((x9.length:Int):Int).toNat)).length:Int)then(if 0≤wrap64 (x8-1)then(if wrap64 (x8-1)<(x7.length:Int)then(if IntKind.u64.wrap ((rd x7 (wrap64 (x8-1)))+1)=0 then(none)else(if 0≤x11 then(if x11<(x10.length:Int)then(if 0≤x11 then(if x11<(x10.length:Int)then(gl2 x7 x8 x11 (mx 1 (IntKind.u64.wrap (Int.tdiv (IntKind.u64.wrap ((IntKind.u64.wrap ((rd (x9.take ((x11:Int).toNat)++r1.2++x9.drop (((x9.length:Int):Int).toNat)) (wrap64 (x11+x8)))*4294967296))+(rd (x9.take ((x11:Int).toNat)++r1.2++x9.drop (((x9.length:Int):Int).toNat)) (wrap64 ((wrap64 (x11+x8))-1))))) (IntKind.u64.wrap ((rd x7 (wrap64 (x8-1)))+1))))) 0 0 (x9.take ((x11:Int).toNat)++r1.2++x9.drop (((x9.length:Int):Int).toNat)) (x10.set (x11:Int).toNat (IntKind.u64.wrap ((rd x10 x11)+(mx 1 (IntKind.u64.wrap (Int.tdiv (IntKind.u64.wrap ((IntKind.u64.wrap ((rd (x9.take ((x11:Int).toNat)++r1.2++x9.drop (((x9.length:Int):Int).toNat)) (wrap64 (x11+x8)))*4294967296))+(rd (x9.take ((x11:Int).toNat)++r1.2++x9.drop (((x9.length:Int):Int).toNat)) (wrap64 ((wrap64 (x11+x8))-1))))) (IntKind.u64.wrap ((rd x7 (wrap64 (x8-1)))+1)))))))))else(none))else(none))else(none))else(none)))else(none))else(none))else(none))else(none))else(none))else(none))else(none)) (gl0 x7 x8 (wrap64 (x11-1)) (x9.take ((x11:Int).toNat)++r1.2++x9.drop (((x9.length:Int):Int).toNat)) x10)))else(none))else(none))else(none))else(none)
theorem e147l1 (s0:SbT ask147.bl) (s:k147l1.T):evPos E0 (orcOf (fes147 c180 c221 c222)) 148 an147 (loOf (les147 gl0 gl1 gl2)) (rk147 s0) (p147.getD 1 ⟨0,[], .skip⟩) (k147l1.mk' s)=B147l1 gl0 gl2 c222 s.1.1 s.1.2.1 s.1.2.2.1 s.2.1 s.2.2.1:=by kernel_rfl
noncomputable def B147l2 (x7:(List Int)) (x8:Int) (x11:Int) (x12:Int) (x13:Int) (x14:Int) (x9:(List Int)) (x10:(List Int)):Option R147:=if x14<x8 then(if 0≤x14 then(if x14<(x7.length:Int)then(if(0:Int)≤32 then(if 0≤wrap64 (x11+x14)then(if wrap64 (x11+x14)<(x9.length:Int)then(if rd x9 (wrap64 (x11+x14))<Go.bits .and .u64 (IntKind.u64.wrap ((IntKind.u64.wrap ((rd x7 x14)*x12))+x13)) 4294967295 then(if 0≤wrap64 (x11+x14)then(if wrap64 (x11+x14)<(x9.length:Int)then(if 0≤wrap64 (x11+x14)then(if wrap64 (x11+x14)<(x9.length:Int)then(if 0≤wrap64 (x11+x14)then(if wrap64 (x11+x14)<((x9.set (wrap64 (x11+x14):Int).toNat (IntKind.u64.wrap ((rd x9 (wrap64 (x11+x14)))+4294967296))).length:Int)then(if 0≤wrap64 (x11+x14)then(if wrap64 (x11+x14)<((x9.set (wrap64 (x11+x14):Int).toNat (IntKind.u64.wrap ((rd x9 (wrap64 (x11+x14)))+4294967296))).length:Int)then(gl2 x7 x8 x11 x12 (IntKind.u64.wrap (((IntKind.u64.wrap ((IntKind.u64.wrap ((rd x7 x14)*x12))+x13))/4294967296)+1)) (wrap64 (x14+1)) ((x9.set (wrap64 (x11+x14):Int).toNat (IntKind.u64.wrap ((rd x9 (wrap64 (x11+x14)))+4294967296))).set (wrap64 (x11+x14):Int).toNat (IntKind.u64.wrap ((rd (x9.set (wrap64 (x11+x14):Int).toNat (IntKind.u64.wrap ((rd x9 (wrap64 (x11+x14)))+4294967296))) (wrap64 (x11+x14)))-(Go.bits .and .u64 (IntKind.u64.wrap ((IntKind.u64.wrap ((rd x7 x14)*x12))+x13)) 4294967295)))) x10)else(none))else(none))else(none))else(none))else(none))else(none))else(none))else(none))else(if 0≤wrap64 (x11+x14)then(if wrap64 (x11+x14)<(x9.length:Int)then(if 0≤wrap64 (x11+x14)then(if wrap64 (x11+x14)<(x9.length:Int)then(gl2 x7 x8 x11 x12 ((IntKind.u64.wrap ((IntKind.u64.wrap ((rd x7 x14)*x12))+x13))/4294967296) (wrap64 (x14+1)) (x9.set (wrap64 (x11+x14):Int).toNat (IntKind.u64.wrap ((rd x9 (wrap64 (x11+x14)))-(Go.bits .and .u64 (IntKind.u64.wrap ((IntKind.u64.wrap ((rd x7 x14)*x12))+x13)) 4294967295)))) x10)else(none))else(none))else(none))else(none)))else(none))else(none))else(none))else(none))else(none))else(if 0≤wrap64 (x11+x8)then(if wrap64 (x11+x8)<(x9.length:Int)then(if 0≤wrap64 (x11+x8)then(if wrap64 (x11+x8)<(x9.length:Int)then(gl1 x7 x8 x11 (x9.set (wrap64 (x11+x8):Int).toNat (IntKind.u64.wrap ((rd x9 (wrap64 (x11+x8)))-x13))) x10)else(none))else(none))else(none))else(none))
theorem e147l2 (s0:SbT ask147.bl) (s:k147l2.T):evPos E0 (orcOf (fes147 c180 c221 c222)) 148 an147 (loOf (les147 gl0 gl1 gl2)) (rk147 s0) (p147.getD 2 ⟨0,[], .skip⟩) (k147l2.mk' s)=B147l2 gl1 gl2 s.1.1 s.1.2.1 s.1.2.2.1 s.1.2.2.2.1 s.1.2.2.2.2.1 s.1.2.2.2.2.2.1 s.2.1 s.2.2.1:=by kernel_rfl
noncomputable def B147 (x0:ByteArray) (x1:ByteArray):Option R147:=cnd ((eqS x1 (⟨#[]⟩:ByteArray))) (some ((⟨#[]⟩:ByteArray),(⟨#[]⟩:ByteArray))) ((c221 x0).bind fun r1=>((c221 x1).bind fun r2=>(if(r1.length+1)*8≤140737488355328 then(if 0≤mx 0 (wrap64 ((wrap64 ((r1.length:Int)-(r2.length:Int)))+1))then(if mx 0 (wrap64 ((wrap64 ((r1.length:Int)-(r2.length:Int)))+1))≤mx 0 (wrap64 ((wrap64 ((r1.length:Int)-(r2.length:Int)))+1))then(if(mx 0 (wrap64 ((wrap64 ((r1.length:Int)-(r2.length:Int)))+1)):Int).toNat≤35184372088832 then(gl0 r2 (r2.length:Int) (wrap64 (((List.replicate (mx 0 (wrap64 ((wrap64 ((r1.length:Int)-(r2.length:Int)))+1)):Int).toNat (0:Int)).length:Int)-1)) (r1++([0]:List Int)) (List.replicate (mx 0 (wrap64 ((wrap64 ((r1.length:Int)-(r2.length:Int)))+1)):Int).toNat (0:Int)))else(none))else(none))else(none))else(none))))
theorem e147 (s:ask147.T):evFn E0 (orcOf (fes147 c180 c221 c222)) an147 (loOf (les147 gl0 gl1 gl2)) 148 cd147 Tryz.f147.results.toList rm147 (ask147.mk' s) (decW rsk147 dec147)=B147 gl0 c221 s.1.1 s.1.2.1:=by kernel_rfl
end
noncomputable def an146:Ann:=⟨[(1,[(0, .any),(1, .any)])],[],[]⟩
noncomputable def cd146:Code:=(Tryz.f146.body).getD .skip
noncomputable def p146:List Pos:=posns an146 [] cd146
noncomputable def rm146:List RM:=[.d .st]
noncomputable def rk146 (s0:SbT ask146.bl):KX R146:=retK E0 Tryz.f146.results.toList rm146 (mkB ask146.bl s0) (decW rsk146 dec146)
noncomputable def k146l0:Sk:=⟨[(0, .d .st),(1, .d .st)],[]⟩
noncomputable def les146 (gl0:ByteArray→ByteArray→Option R146):List (LoE R146):=[⟨1,k146l0,fun s=>gl0 s.1.1 s.1.2.1⟩]
noncomputable def fes146 (c147:ByteArray→ByteArray→Option R147):List FE:=[(fe147 c147)]
section
variable (gl0:ByteArray→ByteArray→Option R146) (c147:ByteArray→ByteArray→Option R147)
noncomputable def B146l0 (x0:ByteArray) (x1:ByteArray):Option R146:=cnd ((!(eqS x1 (⟨#[]⟩:ByteArray)))) ((c147 x0 x1).bind fun r1=>(gl0 x1 r1.2)) (some x0)
theorem e146l0 (s0:SbT ask146.bl) (s:k146l0.T):evPos E0 (orcOf (fes146 c147)) 18 an146 (loOf (les146 gl0)) (rk146 s0) (p146.getD 0 ⟨0,[], .skip⟩) (k146l0.mk' s)=B146l0 gl0 c147 s.1.1 s.1.2.1:=by kernel_rfl
noncomputable def B146 (x0:ByteArray) (x1:ByteArray):Option R146:=gl0 x0 x1
theorem e146 (s:ask146.T):evFn E0 (orcOf (fes146 c147)) an146 (loOf (les146 gl0)) 18 cd146 Tryz.f146.results.toList rm146 (ask146.mk' s) (decW rsk146 dec146)=B146 gl0 s.1.1 s.1.2.1:=by kernel_rfl
end
noncomputable def an148:Ann:=⟨[],[],[]⟩
noncomputable def cd148:Code:=(Tryz.f148.body).getD .skip
noncomputable def rm148:List RM:=[.d (.ag (.pr .bo .st))]
noncomputable def les148:List (LoE R148):=[]
noncomputable def fes148:List FE:=[]
noncomputable def B148 (x0:Bool) (x1:ByteArray):Option R148:=cnd (x0) (some ((!(eqS x1 (⟨#[]⟩:ByteArray))),x1)) (some (false,x1))
theorem e148 (s:ask148.T):evFn E0 (orcOf (fes148)) an148 (loOf (les148)) 12 cd148 Tryz.f148.results.toList rm148 (ask148.mk' s) (decW rsk148 dec148)=B148 s.1.1 s.1.2.1:=by kernel_rfl
noncomputable def an60:Ann:=⟨[],[],[]⟩
noncomputable def cd60:Code:=(Tryz.f60.body).getD .skip
noncomputable def rm60:List RM:=[.d (.ag (.pr (.ag (.pr .bo .st)) .st))]
noncomputable def les60:List (LoE R60):=[]
noncomputable def fes60 (c146:ByteArray→ByteArray→Option R146) (c147:ByteArray→ByteArray→Option R147) (c148:Bool→ByteArray→Option R148):List FE:=[(fe146 c146),(fe147 c147),(fe148 c148)]
section
variable (c146:ByteArray→ByteArray→Option R146) (c147:ByteArray→ByteArray→Option R147) (c148:Bool→ByteArray→Option R148)
noncomputable def B60 (x0:TI) (x1:TI):Option R60:=cnd ((eqS x1.2 (⟨#[]⟩:ByteArray))) (some ((false,(⟨#[]⟩:ByteArray)),(⟨#[1]⟩:ByteArray))) ((c146 x0.2 x1.2).bind fun r1=>((c147 x0.2 r1).bind fun r2=>((c147 x1.2 r1).bind fun r3=>((c148 (!(x0.1==x1.1)) r2.1).bind fun r4=>(some ((r4.1,r4.2),r3.1))))))
theorem e60 (s:ask60.T):evFn E0 (orcOf (fes60 c146 c147 c148)) an60 (loOf (les60)) 42 cd60 Tryz.f60.results.toList rm60 (ask60.mk' s) (decW rsk60 dec60)=B60 c146 c147 c148 s.1.1 s.1.2.1:=by kernel_rfl
end
noncomputable def an13:Ann:=⟨[],[],[]⟩
noncomputable def cd13:Code:=(Tryz.f13.body).getD .skip
noncomputable def rm13:List RM:=[.d (.ag (.pr (.ag (.pr .bo .st)) .st))]
noncomputable def les13:List (LoE R13):=[]
noncomputable def fes13:List FE:=[]
noncomputable def B13 (x0:TI):Option R13:=some (x0,(⟨#[1]⟩:ByteArray))
theorem e13 (s:ask13.T):evFn E0 (orcOf (fes13)) an13 (loOf (les13)) 5 cd13 Tryz.f13.results.toList rm13 (ask13.mk' s) (decW rsk13 dec13)=B13 s.1.1:=by kernel_rfl
noncomputable def an149:Ann:=⟨[(4,[(5, .any),(6, .any),(7, .any),(8, .any)]),(8,[(5, .any),(6, .any),(7, .any),(8, .any),(9, .any),(10, .any)])],[],[]⟩
noncomputable def cd149:Code:=(Tryz.f149.body).getD .skip
noncomputable def p149:List Pos:=posns an149 [] cd149
noncomputable def rm149:List RM:=[.d .st]
noncomputable def rk149 (s0:SbT ask149.bl):KX R149:=retK E0 Tryz.f149.results.toList rm149 (mkB ask149.bl s0) (decW rsk149 dec149)
noncomputable def k149l0:Sk:=⟨[(5, .f (.a (.ref 5))),(6, .f (.a (.ref 6))),(7, .f (.a (.ref 7))),(8, .d (.it .i64))],[(5, .own (.it .u64) true),(6, .own (.it .u64) true),(7, .own (.it .u64) true)]⟩
noncomputable def k149l1:Sk:=⟨[(5, .f (.a (.ref 5))),(6, .f (.a (.ref 6))),(7, .f (.a (.ref 7))),(8, .d (.it .i64)),(9, .d (.it .u64)),(10, .d (.it .i64))],[(5, .own (.it .u64) true),(6, .own (.it .u64) true),(7, .own (.it .u64) true)]⟩
noncomputable def les149 (gl0:Int→(List Int)→(List Int)→(List Int)→Option R149) (gl1:Int→Int→Int→(List Int)→(List Int)→(List Int)→Option R149):List (LoE R149):=[⟨4,k149l0,fun s=>gl0 s.1.1 s.2.1 s.2.2.1 s.2.2.2.1⟩,⟨8,k149l1,fun s=>gl1 s.1.1 s.1.2.1 s.1.2.2.1 s.2.1 s.2.2.1 s.2.2.2.1⟩]
noncomputable def fes149 (c180:(List Int)→Option R180) (c221:ByteArray→Option R221):List FE:=[(fe180 c180),(fe221 c221)]
section
variable (gl0:Int→(List Int)→(List Int)→(List Int)→Option R149) (gl1:Int→Int→Int→(List Int)→(List Int)→(List Int)→Option R149) (c180:(List Int)→Option R180) (c221:ByteArray→Option R221)
noncomputable def B149l0 (x8:Int) (x5:(List Int)) (x6:(List Int)) (x7:(List Int)):Option R149:=if x8<(x5.length:Int)then(gl1 x8 0 0 x5 x6 x7)else((c180 x7).bind fun r1=>(some r1))
theorem e149l0 (s0:SbT ask149.bl) (s:k149l0.T):evPos E0 (orcOf (fes149 c180 c221)) 70 an149 (loOf (les149 gl0 gl1)) (rk149 s0) (p149.getD 0 ⟨0,[], .skip⟩) (k149l0.mk' s)=B149l0 gl1 c180 s.1.1 s.2.1 s.2.2.1 s.2.2.2.1:=by kernel_rfl
noncomputable def B149l1 (x8:Int) (x9:Int) (x10:Int) (x5:(List Int)) (x6:(List Int)) (x7:(List Int)):Option R149:=if x10<(x6.length:Int)then(if 0≤wrap64 (x8+x10)then(if wrap64 (x8+x10)<(x7.length:Int)then(if 0≤x8 then(if x8<(x5.length:Int)then(if 0≤x10 then(if x10<(x6.length:Int)then(if 0≤wrap64 (x8+x10)then(if wrap64 (x8+x10)<(x7.length:Int)then(if(0:Int)≤32 then(gl1 x8 ((IntKind.u64.wrap ((IntKind.u64.wrap ((rd x7 (wrap64 (x8+x10)))+(IntKind.u64.wrap ((rd x5 x8)*(rd x6 x10)))))+x9))/4294967296) (wrap64 (x10+1)) x5 x6 (x7.set (wrap64 (x8+x10):Int).toNat (Go.bits .and .u64 (IntKind.u64.wrap ((IntKind.u64.wrap ((rd x7 (wrap64 (x8+x10)))+(IntKind.u64.wrap ((rd x5 x8)*(rd x6 x10)))))+x9)) 4294967295)))else(none))else(none))else(none))else(none))else(none))else(none))else(none))else(none))else(none))else(if 0≤wrap64 (x8+(x6.length:Int))then(if wrap64 (x8+(x6.length:Int))<(x7.length:Int)then(gl0 (wrap64 (x8+1)) x5 x6 (x7.set (wrap64 (x8+(x6.length:Int)):Int).toNat x9))else(none))else(none))
theorem e149l1 (s0:SbT ask149.bl) (s:k149l1.T):evPos E0 (orcOf (fes149 c180 c221)) 70 an149 (loOf (les149 gl0 gl1)) (rk149 s0) (p149.getD 1 ⟨0,[], .skip⟩) (k149l1.mk' s)=B149l1 gl0 gl1 s.1.1 s.1.2.1 s.1.2.2.1 s.2.1 s.2.2.1 s.2.2.2.1:=by kernel_rfl
noncomputable def B149 (x0:ByteArray) (x1:ByteArray):Option R149:=(c221 x0).bind fun r1=>((c221 x1).bind fun r2=>(if 0≤wrap64 ((r1.length:Int)+(r2.length:Int))then(if wrap64 ((r1.length:Int)+(r2.length:Int))≤wrap64 ((r1.length:Int)+(r2.length:Int))then(if(wrap64 ((r1.length:Int)+(r2.length:Int)):Int).toNat≤35184372088832 then(gl0 0 r1 r2 (List.replicate (wrap64 ((r1.length:Int)+(r2.length:Int)):Int).toNat (0:Int)))else(none))else(none))else(none)))
theorem e149 (s:ask149.T):evFn E0 (orcOf (fes149 c180 c221)) an149 (loOf (les149 gl0 gl1)) 70 cd149 Tryz.f149.results.toList rm149 (ask149.mk' s) (decW rsk149 dec149)=B149 gl0 c221 s.1.1 s.1.2.1:=by kernel_rfl
end
noncomputable def an61:Ann:=⟨[],[],[]⟩
noncomputable def cd61:Code:=(Tryz.f61.body).getD .skip
noncomputable def rm61:List RM:=[.d (.ag (.pr .bo .st))]
noncomputable def les61:List (LoE R61):=[]
noncomputable def fes61 (c148:Bool→ByteArray→Option R148) (c149:ByteArray→ByteArray→Option R149):List FE:=[(fe148 c148),(fe149 c149)]
section
variable (c148:Bool→ByteArray→Option R148) (c149:ByteArray→ByteArray→Option R149)
noncomputable def B61 (x0:TI) (x1:TI):Option R61:=(c149 x0.2 x1.2).bind fun r1=>((c148 (!(x0.1==x1.1)) r1).bind fun r2=>(some (r2.1,r2.2)))
theorem e61 (s:ask61.T):evFn E0 (orcOf (fes61 c148 c149)) an61 (loOf (les61)) 16 cd61 Tryz.f61.results.toList rm61 (ask61.mk' s) (decW rsk61 dec61)=B61 c148 c149 s.1.1 s.1.2.1:=by kernel_rfl
end
noncomputable def an62:Ann:=⟨[],[],[]⟩
noncomputable def cd62:Code:=(Tryz.f62.body).getD .skip
noncomputable def rm62:List RM:=[.d (.ag (.pr .bo .st))]
noncomputable def les62:List (LoE R62):=[]
noncomputable def fes62:List FE:=[]
noncomputable def B62 (x0:TQ):Option R62:=some (false,x0.2)
theorem e62 (s:ask62.T):evFn E0 (orcOf (fes62)) an62 (loOf (les62)) 6 cd62 Tryz.f62.results.toList rm62 (ask62.mk' s) (decW rsk62 dec62)=B62 s.1.1:=by kernel_rfl
noncomputable def an12:Ann:=⟨[],[],[]⟩
noncomputable def cd12:Code:=(Tryz.f12.body).getD .skip
noncomputable def rm12:List RM:=[.d (.ag (.pr (.ag (.pr .bo .st)) .st))]
noncomputable def les12:List (LoE R12):=[]
noncomputable def fes12 (c13:TI→Option R13) (c60:TI→TI→Option R60) (c61:TI→TI→Option R61) (c62:TQ→Option R62):List FE:=[(fe13 c13),(fe60 c60),(fe61 c61),(fe62 c62)]
section
variable (c13:TI→Option R13) (c60:TI→TI→Option R60) (c61:TI→TI→Option R61) (c62:TQ→Option R62)
noncomputable def B12 (x0:TQ) (x1:TQ):Option R12:=cnd ((eqS x0.2 (⟨#[1]⟩:ByteArray))) (cnd ((eqS x1.2 (⟨#[1]⟩:ByteArray))) ((c61 x0.1 x1.1).bind fun r1=>((c13 (r1.1,r1.2)).bind fun r2=>(some (r2.1,r2.2)))) ((c61 x0.1 x1.1).bind fun r3=>((c62 x0).bind fun r4=>((c62 x1).bind fun r5=>((c61 (r4.1,r4.2) (r5.1,r5.2)).bind fun r6=>((c60 (r3.1,r3.2) (r6.1,r6.2)).bind fun r7=>(some (r7.1,r7.2)))))))) ((c61 x0.1 x1.1).bind fun r8=>((c62 x0).bind fun r9=>((c62 x1).bind fun r10=>((c61 (r9.1,r9.2) (r10.1,r10.2)).bind fun r11=>((c60 (r8.1,r8.2) (r11.1,r11.2)).bind fun r12=>(some (r12.1,r12.2)))))))
theorem e12 (s:ask12.T):evFn E0 (orcOf (fes12 c13 c60 c61 c62)) an12 (loOf (les12)) 30 cd12 Tryz.f12.results.toList rm12 (ask12.mk' s) (decW rsk12 dec12)=B12 c13 c60 c61 c62 s.1.1 s.1.2.1:=by kernel_rfl
end
noncomputable def an234:Ann:=⟨[(2,[(0, .any),(3, .any)])],[],[]⟩
noncomputable def cd234:Code:=(Tryz.f234.body).getD .skip
noncomputable def p234:List Pos:=posns an234 [] cd234
noncomputable def rm234:List RM:=[.sh]
noncomputable def rk234 (s0:SbT ask234.bl):KX R234:=retK E0 Tryz.f234.results.toList rm234 (mkB ask234.bl s0) (decW rsk234 dec234)
noncomputable def k234l0:Sk:=⟨[(0, .f (.a (.ref 2000))),(3, .d (.it .i64))],[(2000, .own (.it .u64) false)]⟩
noncomputable def les234 (gl0:Int→(List Int)→Option R234):List (LoE R234):=[⟨2,k234l0,fun s=>gl0 s.1.1 s.2.1⟩]
noncomputable def fes234:List FE:=[]
section
variable (gl0:Int→(List Int)→Option R234)
noncomputable def B234l0 (x3:Int) (y0:(List Int)):Option R234:=if x3>0 then(if 0≤wrap64 (x3-1)then(if wrap64 (x3-1)<(y0.length:Int)then(if rd y0 (wrap64 (x3-1))=0 then(gl0 (wrap64 (x3-1)) y0)else(if(0:Int)≤0 then(if 0≤x3 then(if x3≤(y0.length:Int)then(if(y0.length:Int)≤(y0.length:Int)then(some (x3,y0))else(none))else(none))else(none))else(none)))else(none))else(none))else(if(0:Int)≤0 then(if 0≤x3 then(if x3≤(y0.length:Int)then(if(y0.length:Int)≤(y0.length:Int)then(some (x3,y0))else(none))else(none))else(none))else(none))
theorem e234l0 (s0:SbT ask234.bl) (s:k234l0.T):evPos E0 (orcOf (fes234)) 21 an234 (loOf (les234 gl0)) (rk234 s0) (p234.getD 0 ⟨0,[], .skip⟩) (k234l0.mk' s)=B234l0 gl0 s.1.1 s.2.1:=by kernel_rfl
noncomputable def B234 (y0:(List Int)):Option R234:=gl0 (y0.length:Int) y0
theorem e234 (s:ask234.T):evFn E0 (orcOf (fes234)) an234 (loOf (les234 gl0)) 21 cd234 Tryz.f234.results.toList rm234 (ask234.mk' s) (decW rsk234 dec234)=B234 gl0 s.2.1:=by kernel_rfl
end
noncomputable def an252:Ann:=⟨[],[],[]⟩
noncomputable def cd252:Code:=(Tryz.f252.body).getD .skip
noncomputable def rm252:List RM:=[.d (.it .u64), .d (.it .u64)]
noncomputable def les252:List (LoE R252):=[]
noncomputable def fes252:List FE:=[]
noncomputable def B252 (x0:Int) (x1:Int):Option R252:=if(0:Int)≤32 then(if(0:Int)≤32 then(if(0:Int)≤32 then(if(0:Int)≤32 then(if(0:Int)≤32 then(some (IntKind.u64.wrap ((IntKind.u64.wrap ((IntKind.u64.wrap ((x0/4294967296)*(x1/4294967296)))+((IntKind.u64.wrap ((IntKind.u64.wrap ((x0/4294967296)*(Go.bits .and .u64 x1 4294967295)))+((IntKind.u64.wrap ((Go.bits .and .u64 x0 4294967295)*(Go.bits .and .u64 x1 4294967295)))/4294967296)))/4294967296)))+((IntKind.u64.wrap ((Go.bits .and .u64 (IntKind.u64.wrap ((IntKind.u64.wrap ((x0/4294967296)*(Go.bits .and .u64 x1 4294967295)))+((IntKind.u64.wrap ((Go.bits .and .u64 x0 4294967295)*(Go.bits .and .u64 x1 4294967295)))/4294967296))) 4294967295)+(IntKind.u64.wrap ((Go.bits .and .u64 x0 4294967295)*(x1/4294967296)))))/4294967296)),IntKind.u64.wrap (x0*x1)))else(none))else(none))else(none))else(none))else(none)
theorem e252 (s:ask252.T):evFn E0 (orcOf (fes252)) an252 (loOf (les252)) 51 cd252 Tryz.f252.results.toList rm252 (ask252.mk' s) (decW rsk252 dec252)=B252 s.1.1 s.1.2.1:=by kernel_rfl
noncomputable def an219:Ann:=⟨[(3,[(1, .any),(5, .any),(20, .any),(21, .any),(22, .any)]),(7,[(1, .any),(5, .any),(6, .any),(7, .any),(8, .any),(20, .any),(21, .any),(22, .any),(27, .any),(28, .any),(29, .any)])],[],[]⟩
noncomputable def cd219:Code:=(Tryz.f219.body).getD .skip
noncomputable def p219:List Pos:=posns an219 [] cd219
noncomputable def rm219:List RM:=[.d (.li (.it .u64))]
noncomputable def rk219 (s0:SbT ask219.bl):KX R219:=retK E0 Tryz.f219.results.toList rm219 (mkB ask219.bl s0) (decW rsk219 dec219)
noncomputable def k219l0:Sk:=⟨[(1, .d (.li (.it .u64))),(5, .f (.a (.ref 5))),(20, .d (.li (.it .u64))),(21, .d (.it .i64)),(22, .d (.it .i64))],[(5, .own (.it .u64) true)]⟩
noncomputable def k219l1:Sk:=⟨[(1, .d (.li (.it .u64))),(5, .f (.a (.ref 5))),(6, .d (.it .i64)),(7, .d (.it .u64)),(8, .d (.it .u64)),(20, .d (.li (.it .u64))),(21, .d (.it .i64)),(22, .d (.it .i64)),(27, .d (.li (.it .u64))),(28, .d (.it .i64)),(29, .d (.it .i64))],[(5, .own (.it .u64) true)]⟩
noncomputable def les219 (gl0:(List Int)→(List Int)→Int→Int→(List Int)→Option R219) (gl1:(List Int)→Int→Int→Int→(List Int)→Int→Int→(List Int)→Int→Int→(List Int)→Option R219):List (LoE R219):=[⟨3,k219l0,fun s=>gl0 s.1.1 s.1.2.1 s.1.2.2.1 s.1.2.2.2.1 s.2.1⟩,⟨7,k219l1,fun s=>gl1 s.1.1 s.1.2.1 s.1.2.2.1 s.1.2.2.2.1 s.1.2.2.2.2.1 s.1.2.2.2.2.2.1 s.1.2.2.2.2.2.2.1 s.1.2.2.2.2.2.2.2.1 s.1.2.2.2.2.2.2.2.2.1 s.1.2.2.2.2.2.2.2.2.2.1 s.2.1⟩]
noncomputable def fes219 (c234:(List Int)→Option R234) (c251:Int→Int→Int→Option R251) (c252:Int→Int→Option R252):List FE:=[(fe234 c234),(fe251 c251),(fe252 c252)]
section
variable (gl0:(List Int)→(List Int)→Int→Int→(List Int)→Option R219) (gl1:(List Int)→Int→Int→Int→(List Int)→Int→Int→(List Int)→Int→Int→(List Int)→Option R219) (c234:(List Int)→Option R234) (c251:Int→Int→Int→Option R251) (c252:Int→Int→Option R252)
noncomputable def B219l0 (x1:(List Int)) (x20:(List Int)) (x21:Int) (x22:Int) (x5:(List Int)):Option R219:=if x22<x21 then(if 0≤x22 then(if x22<(x20.length:Int)then(gl1 x1 x22 (rd x20 x22) 0 x20 x21 x22 x1 (x1.length:Int) 0 x5)else(none))else(none))else((c234 x5).bind fun r1=>(some (r1.2.take (r1.1:Int).toNat)))
theorem e219l0 (s0:SbT ask219.bl) (s:k219l0.T):evPos E0 (orcOf (fes219 c234 c251 c252)) 80 an219 (loOf (les219 gl0 gl1)) (rk219 s0) (p219.getD 0 ⟨0,[], .skip⟩) (k219l0.mk' s)=B219l0 gl1 c234 s.1.1 s.1.2.1 s.1.2.2.1 s.1.2.2.2.1 s.2.1:=by kernel_rfl
noncomputable def B219l1 (x1:(List Int)) (x6:Int) (x7:Int) (x8:Int) (x20:(List Int)) (x21:Int) (x22:Int) (x27:(List Int)) (x28:Int) (x29:Int) (x5:(List Int)):Option R219:=if x29<x28 then(if 0≤x29 then(if x29<(x27.length:Int)then((c252 x7 (rd x27 x29)).bind fun r1=>(if 0≤wrap64 (x6+x29)then(if wrap64 (x6+x29)<(x5.length:Int)then((c251 r1.2 (rd x5 (wrap64 (x6+x29))) 0).bind fun r2=>((c251 r2.1 x8 0).bind fun r3=>(if 0≤wrap64 (x6+x29)then(if wrap64 (x6+x29)<(x5.length:Int)then(gl1 x1 x6 x7 (IntKind.u64.wrap ((IntKind.u64.wrap (r1.1+r2.2))+r3.2)) x20 x21 x22 x27 x28 (wrap64 (x29+1)) (x5.set (wrap64 (x6+x29):Int).toNat r3.1))else(none))else(none))))else(none))else(none)))else(none))else(none))else(if 0≤wrap64 (x6+(x1.length:Int))then(if wrap64 (x6+(x1.length:Int))<(x5.length:Int)then(gl0 x1 x20 x21 (wrap64 (x22+1)) (x5.set (wrap64 (x6+(x1.length:Int)):Int).toNat x8))else(none))else(none))
theorem e219l1 (s0:SbT ask219.bl) (s:k219l1.T):evPos E0 (orcOf (fes219 c234 c251 c252)) 80 an219 (loOf (les219 gl0 gl1)) (rk219 s0) (p219.getD 1 ⟨0,[], .skip⟩) (k219l1.mk' s)=B219l1 gl0 gl1 c251 c252 s.1.1 s.1.2.1 s.1.2.2.1 s.1.2.2.2.1 s.1.2.2.2.2.1 s.1.2.2.2.2.2.1 s.1.2.2.2.2.2.2.1 s.1.2.2.2.2.2.2.2.1 s.1.2.2.2.2.2.2.2.2.1 s.1.2.2.2.2.2.2.2.2.2.1 s.2.1:=by kernel_rfl
noncomputable def B219 (x0:(List Int)) (x1:(List Int)):Option R219:=if 0≤wrap64 ((x0.length:Int)+(x1.length:Int))then(if wrap64 ((x0.length:Int)+(x1.length:Int))≤wrap64 ((x0.length:Int)+(x1.length:Int))then(if(wrap64 ((x0.length:Int)+(x1.length:Int)):Int).toNat≤35184372088832 then(gl0 x1 x0 (x0.length:Int) 0 (List.replicate (wrap64 ((x0.length:Int)+(x1.length:Int)):Int).toNat (0:Int)))else(none))else(none))else(none)
theorem e219 (s:ask219.T):evFn E0 (orcOf (fes219 c234 c251 c252)) an219 (loOf (les219 gl0 gl1)) 80 cd219 Tryz.f219.results.toList rm219 (ask219.mk' s) (decW rsk219 dec219)=B219 gl0 s.1.1 s.1.2.1:=by kernel_rfl
end
noncomputable def an220:Ann:=⟨[(3,[(0, .any),(3, .any),(12, .any),(13, .any)])],[],[]⟩
noncomputable def cd220:Code:=(Tryz.f220.body).getD .skip
noncomputable def p220:List Pos:=posns an220 [] cd220
noncomputable def rm220:List RM:=[.own (.it .u64)]
noncomputable def rk220 (s0:SbT ask220.bl):KX R220:=retK E0 Tryz.f220.results.toList rm220 (mkB ask220.bl s0) (decW rsk220 dec220)
noncomputable def k220l0:Sk:=⟨[(0, .d .st),(3, .f (.a (.ref 3))),(12, .d (.it .i64)),(13, .d (.it .i64))],[(3, .own (.it .u64) true)]⟩
noncomputable def les220 (gl0:ByteArray→Int→Int→(List Int)→Option R220):List (LoE R220):=[⟨3,k220l0,fun s=>gl0 s.1.1 s.1.2.1 s.1.2.2.1 s.2.1⟩]
noncomputable def fes220 (c234:(List Int)→Option R234):List FE:=[(fe234 c234)]
section
variable (gl0:ByteArray→Int→Int→(List Int)→Option R220) (c234:(List Int)→Option R234)
noncomputable def B220l0 (x0:ByteArray) (x12:Int) (x13:Int) (x3:(List Int)):Option R220:=if x13<x12 then(if(8:Int)=0 then(none)else(if 0≤wrap64 (Int.tdiv (wrap64 ((wrap64 ((x0.size:Int)-1))-x13)) 8)then(if wrap64 (Int.tdiv (wrap64 ((wrap64 ((x0.size:Int)-1))-x13)) 8)<(x3.length:Int)then(if 0≤x13 then(if x13<(x0.size:Int)then(if(8:Int)=0 then(none)else(if 0≤wrap64 (8*(Int.tmod (wrap64 ((wrap64 ((x0.size:Int)-1))-x13)) 8))then(if 0≤wrap64 (Int.tdiv (wrap64 ((wrap64 ((x0.size:Int)-1))-x13)) 8)then(if wrap64 (Int.tdiv (wrap64 ((wrap64 ((x0.size:Int)-1))-x13)) 8)<(x3.length:Int)then(gl0 x0 x12 (wrap64 (x13+1)) (x3.set (wrap64 (Int.tdiv (wrap64 ((wrap64 ((x0.size:Int)-1))-x13)) 8):Int).toNat (Go.bits .or .u64 (rd x3 (wrap64 (Int.tdiv (wrap64 ((wrap64 ((x0.size:Int)-1))-x13)) 8))) (shl .u64 (IntKind.u64.wrap (bt x0 x13)) (wrap64 (8*(Int.tmod (wrap64 ((wrap64 ((x0.size:Int)-1))-x13)) 8)))))))else(none))else(none))else(none)))else(none))else(none))else(none))else(none)))else((c234 x3).bind fun r1=>(some (r1.2.take (r1.1:Int).toNat)))
theorem e220l0 (s0:SbT ask220.bl) (s:k220l0.T):evPos E0 (orcOf (fes220 c234)) 39 an220 (loOf (les220 gl0)) (rk220 s0) (p220.getD 0 ⟨0,[], .skip⟩) (k220l0.mk' s)=B220l0 gl0 c234 s.1.1 s.1.2.1 s.1.2.2.1 s.2.1:=by kernel_rfl
noncomputable def B220 (x0:ByteArray):Option R220:=if(8:Int)=0 then(none)else(if 0≤wrap64 (Int.tdiv (wrap64 ((x0.size:Int)+7)) 8)then(if wrap64 (Int.tdiv (wrap64 ((x0.size:Int)+7)) 8)≤wrap64 (Int.tdiv (wrap64 ((x0.size:Int)+7)) 8)then(if(wrap64 (Int.tdiv (wrap64 ((x0.size:Int)+7)) 8):Int).toNat≤35184372088832 then(gl0 x0 (x0.size:Int) 0 (List.replicate (wrap64 (Int.tdiv (wrap64 ((x0.size:Int)+7)) 8):Int).toNat (0:Int)))else(none))else(none))else(none))
theorem e220 (s:ask220.T):evFn E0 (orcOf (fes220 c234)) an220 (loOf (les220 gl0)) 39 cd220 Tryz.f220.results.toList rm220 (ask220.mk' s) (decW rsk220 dec220)=B220 gl0 s.1.1:=by kernel_rfl
end
noncomputable def an144:Ann:=⟨[],[],[]⟩
noncomputable def cd144:Code:=(Tryz.f144.body).getD .skip
noncomputable def rm144:List RM:=[.d .st]
noncomputable def les144:List (LoE R144):=[]
noncomputable def fes144 (c192:(List Int)→Option R192) (c219:(List Int)→(List Int)→Option R219) (c220:ByteArray→Option R220):List FE:=[(fe192 c192),(fe219 c219),(fe220 c220)]
section
variable (c192:(List Int)→Option R192) (c219:(List Int)→(List Int)→Option R219) (c220:ByteArray→Option R220)
noncomputable def B144 (x0:ByteArray) (x1:ByteArray):Option R144:=(c220 x0).bind fun r1=>((c220 x1).bind fun r2=>((c219 r1 r2).bind fun r3=>((c192 r3).bind fun r4=>(some r4))))
theorem e144 (s:ask144.T):evFn E0 (orcOf (fes144 c192 c219 c220)) an144 (loOf (les144)) 11 cd144 Tryz.f144.results.toList rm144 (ask144.mk' s) (decW rsk144 dec144)=B144 c192 c219 c220 s.1.1 s.1.2.1:=by kernel_rfl
end
noncomputable def an217:Ann:=⟨[(7,[(5, .any),(6, .any),(7, .any),(8, .any),(27, .any),(28, .any)])],[],[]⟩
noncomputable def cd217:Code:=(Tryz.f217.body).getD .skip
noncomputable def p217:List Pos:=posns an217 [] cd217
noncomputable def rm217:List RM:=[.d .st]
noncomputable def rk217 (s0:SbT ask217.bl):KX R217:=retK E0 Tryz.f217.results.toList rm217 (mkB ask217.bl s0) (decW rsk217 dec217)
noncomputable def k217l0:Sk:=⟨[(5, .f (.a (.ref 5))),(6, .f (.a (.ref 6))),(7, .f (.a (.ref 7))),(8, .d (.it .u64)),(27, .d (.it .i64)),(28, .d (.it .i64))],[(5, .own (.it .u64) true),(6, .own (.it .u64) true),(7, .own (.it .u64) true)]⟩
noncomputable def les217 (gl0:Int→Int→Int→(List Int)→(List Int)→(List Int)→Option R217):List (LoE R217):=[⟨7,k217l0,fun s=>gl0 s.1.1 s.1.2.1 s.1.2.2.1 s.2.1 s.2.2.1 s.2.2.2.1⟩]
noncomputable def fes217 (c192:(List Int)→Option R192) (c220:ByteArray→Option R220) (c251:Int→Int→Int→Option R251):List FE:=[(fe192 c192),(fe220 c220),(fe251 c251)]
section
variable (gl0:Int→Int→Int→(List Int)→(List Int)→(List Int)→Option R217) (c192:(List Int)→Option R192) (c220:ByteArray→Option R220) (c251:Int→Int→Int→Option R251)
noncomputable def B217l0 (x8:Int) (x27:Int) (x28:Int) (x5:(List Int)) (x6:(List Int)) (x7:(List Int)):Option R217:=if x28<x27 then(if x28<(x6.length:Int)then(if 0≤x28 then(if x28<(x6.length:Int)then(if 0≤x28 then(if x28<(x5.length:Int)then((c251 (rd x5 x28) (rd x6 x28) x8).bind fun r1=>(if 0≤x28 then(if x28<(x7.length:Int)then(gl0 r1.2 x27 (wrap64 (x28+1)) x5 x6 (x7.set (x28:Int).toNat r1.1))else(none))else(none)))else(none))else(none))else(none))else(none))else(if 0≤x28 then(if x28<(x5.length:Int)then((c251 (rd x5 x28) 0 x8).bind fun r2=>(if 0≤x28 then(if x28<(x7.length:Int)then(gl0 r2.2 x27 (wrap64 (x28+1)) x5 x6 (x7.set (x28:Int).toNat r2.1))else(none))else(none)))else(none))else(none)))else(if 0≤(x5.length:Int)then(if(x5.length:Int)<(x7.length:Int)then((c192 (x7.set ((x5.length:Int):Int).toNat x8)).bind fun r3=>(some r3))else(none))else(none))
theorem e217l0 (s0:SbT ask217.bl) (s:k217l0.T):evPos E0 (orcOf (fes217 c192 c220 c251)) 60 an217 (loOf (les217 gl0)) (rk217 s0) (p217.getD 0 ⟨0,[], .skip⟩) (k217l0.mk' s)=B217l0 gl0 c192 c251 s.1.1 s.1.2.1 s.1.2.2.1 s.2.1 s.2.2.1 s.2.2.2.1:=by kernel_rfl
noncomputable def B217 (x0:ByteArray) (x1:ByteArray):Option R217:=(c220 x0).bind fun r1=>((c220 x1).bind fun r2=>(if(r1.length:Int)<(r2.length:Int)then(if 0≤wrap64 ((r2.length:Int)+1)then(if wrap64 ((r2.length:Int)+1)≤wrap64 ((r2.length:Int)+1)then(if(wrap64 ((r2.length:Int)+1):Int).toNat≤35184372088832 then(gl0 0 (r2.length:Int) 0 r2 r1 (List.replicate (wrap64 ((r2.length:Int)+1):Int).toNat (0:Int)))else(none))else(none))else(none))else(if 0≤wrap64 ((r1.length:Int)+1)then(if wrap64 ((r1.length:Int)+1)≤wrap64 ((r1.length:Int)+1)then(if(wrap64 ((r1.length:Int)+1):Int).toNat≤35184372088832 then(gl0 0 (r1.length:Int) 0 r1 r2 (List.replicate (wrap64 ((r1.length:Int)+1):Int).toNat (0:Int)))else(none))else(none))else(none))))
theorem e217 (s:ask217.T):evFn E0 (orcOf (fes217 c192 c220 c251)) an217 (loOf (les217 gl0)) 60 cd217 Tryz.f217.results.toList rm217 (ask217.mk' s) (decW rsk217 dec217)=B217 gl0 c220 s.1.1 s.1.2.1:=by kernel_rfl
end
noncomputable def an218:Ann:=⟨[],[],[]⟩
noncomputable def cd218:Code:=(Tryz.f218.body).getD .skip
noncomputable def rm218:List RM:=[.d (.it .i64)]
noncomputable def les218:List (LoE R218):=[]
noncomputable def fes218:List FE:=[]
noncomputable def B218 (x0:ByteArray) (x1:ByteArray):Option R218:=if(x0.size:Int)<(x1.size:Int)then(some (-1))else(if(x0.size:Int)=(x1.size:Int)then(cnd ((Op.bytesLess x0.toList x1.toList)) (some (-1)) (cnd ((eqS x0 x1)) (some 0) (some 1)))else(cnd ((eqS x0 x1)) (some 0) (some 1)))
theorem e218 (s:ask218.T):evFn E0 (orcOf (fes218)) an218 (loOf (les218)) 27 cd218 Tryz.f218.results.toList rm218 (ask218.mk' s) (decW rsk218 dec218)=B218 s.1.1 s.1.2.1:=by kernel_rfl
noncomputable def an143:Ann:=⟨[],[],[]⟩
noncomputable def cd143:Code:=(Tryz.f143.body).getD .skip
noncomputable def rm143:List RM:=[.d (.ag (.pr .bo .st))]
noncomputable def les143:List (LoE R143):=[]
noncomputable def fes143:List FE:=[]
noncomputable def B143 (x0:Bool) (x1:ByteArray):Option R143:=cnd (x0) (some ((!(eqS x1 (⟨#[]⟩:ByteArray))),x1)) (some (false,x1))
theorem e143 (s:ask143.T):evFn E0 (orcOf (fes143)) an143 (loOf (les143)) 12 cd143 Tryz.f143.results.toList rm143 (ask143.mk' s) (decW rsk143 dec143)=B143 s.1.1 s.1.2.1:=by kernel_rfl
noncomputable def an187:Ann:=⟨[(4,[(5, .any),(6, .any),(7, .any),(15, .any),(16, .any)])],[],[]⟩
noncomputable def cd187:Code:=(Tryz.f187.body).getD .skip
noncomputable def p187:List Pos:=posns an187 [] cd187
noncomputable def rm187:List RM:=[.d .st]
noncomputable def rk187 (s0:SbT ask187.bl):KX R187:=retK E0 Tryz.f187.results.toList rm187 (mkB ask187.bl s0) (decW rsk187 dec187)
noncomputable def k187l0:Sk:=⟨[(5, .f (.a (.ref 5))),(6, .f (.a (.ref 6))),(7, .d (.it .u64)),(15, .d (.it .i64)),(16, .d (.it .i64))],[(5, .own (.it .u64) true),(6, .own (.it .u64) true)]⟩
noncomputable def les187 (gl0:Int→Int→Int→(List Int)→(List Int)→Option R187):List (LoE R187):=[⟨4,k187l0,fun s=>gl0 s.1.1 s.1.2.1 s.1.2.2.1 s.2.1 s.2.2.1⟩]
noncomputable def fes187 (c192:(List Int)→Option R192) (c220:ByteArray→Option R220) (c232:Int→Int→Int→Option R232):List FE:=[(fe192 c192),(fe220 c220),(fe232 c232)]
section
variable (gl0:Int→Int→Int→(List Int)→(List Int)→Option R187) (c192:(List Int)→Option R192) (c220:ByteArray→Option R220) (c232:Int→Int→Int→Option R232)
noncomputable def B187l0 (x7:Int) (x15:Int) (x16:Int) (x5:(List Int)) (x6:(List Int)):Option R187:=if x16<x15 then(if x16<(x6.length:Int)then(if 0≤x16 then(if x16<(x6.length:Int)then(if 0≤x16 then(if x16<(x5.length:Int)then((c232 (rd x5 x16) (rd x6 x16) x7).bind fun r1=>(if 0≤x16 then(if x16<(x5.length:Int)then(gl0 r1.2 x15 (wrap64 (x16+1)) (x5.set (x16:Int).toNat r1.1) x6)else(none))else(none)))else(none))else(none))else(none))else(none))else(if 0≤x16 then(if x16<(x5.length:Int)then((c232 (rd x5 x16) 0 x7).bind fun r2=>(if 0≤x16 then(if x16<(x5.length:Int)then(gl0 r2.2 x15 (wrap64 (x16+1)) (x5.set (x16:Int).toNat r2.1) x6)else(none))else(none)))else(none))else(none)))else((c192 x5).bind fun r3=>(some r3))
theorem e187l0 (s0:SbT ask187.bl) (s:k187l0.T):evPos E0 (orcOf (fes187 c192 c220 c232)) 43 an187 (loOf (les187 gl0)) (rk187 s0) (p187.getD 0 ⟨0,[], .skip⟩) (k187l0.mk' s)=B187l0 gl0 c192 c232 s.1.1 s.1.2.1 s.1.2.2.1 s.2.1 s.2.2.1:=by kernel_rfl
noncomputable def B187 (x0:ByteArray) (x1:ByteArray):Option R187:=(c220 x0).bind fun r1=>((c220 x1).bind fun r2=>(gl0 0 (r1.length:Int) 0 r1 r2))
theorem e187 (s:ask187.T):evFn E0 (orcOf (fes187 c192 c220 c232)) an187 (loOf (les187 gl0)) 43 cd187 Tryz.f187.results.toList rm187 (ask187.mk' s) (decW rsk187 dec187)=B187 gl0 c220 s.1.1 s.1.2.1:=by kernel_rfl
end
noncomputable def an141:Ann:=⟨[],[],[]⟩
noncomputable def cd141:Code:=(Tryz.f141.body).getD .skip
noncomputable def rm141:List RM:=[.d (.ag (.pr .bo .st))]
noncomputable def les141:List (LoE R141):=[]
noncomputable def fes141 (c143:Bool→ByteArray→Option R143) (c187:ByteArray→ByteArray→Option R187) (c217:ByteArray→ByteArray→Option R217) (c218:ByteArray→ByteArray→Option R218):List FE:=[(fe143 c143),(fe187 c187),(fe217 c217),(fe218 c218)]
section
variable (c143:Bool→ByteArray→Option R143) (c187:ByteArray→ByteArray→Option R187) (c217:ByteArray→ByteArray→Option R217) (c218:ByteArray→ByteArray→Option R218)
noncomputable def B141 (x0:TI) (x1:TI):Option R141:=cnd ((x0.1==x1.1)) ((c217 x0.2 x1.2).bind fun r1=>((c143 x0.1 r1).bind fun r2=>(some (r2.1,r2.2)))) ((c218 x0.2 x1.2).bind fun r3=>(if r3<0 then((c187 x1.2 x0.2).bind fun r4=>((c143 x1.1 r4).bind fun r5=>(some (r5.1,r5.2))))else((c187 x0.2 x1.2).bind fun r6=>((c143 x0.1 r6).bind fun r7=>(some (r7.1,r7.2))))))
theorem e141 (s:ask141.T):evFn E0 (orcOf (fes141 c143 c187 c217 c218)) an141 (loOf (les141)) 42 cd141 Tryz.f141.results.toList rm141 (ask141.mk' s) (decW rsk141 dec141)=B141 c143 c187 c217 c218 s.1.1 s.1.2.1:=by kernel_rfl
end
noncomputable def an259:Ann:=⟨[(6,[(0, .any),(1, .any),(5, .any)])],[],[]⟩
noncomputable def cd259:Code:=(Tryz.f259.body).getD .skip
noncomputable def p259:List Pos:=posns an259 [] cd259
noncomputable def rm259:List RM:=[.d (.it .i64)]
noncomputable def rk259 (s0:SbT ask259.bl):KX R259:=retK E0 Tryz.f259.results.toList rm259 (mkB ask259.bl s0) (decW rsk259 dec259)
noncomputable def k259l0:Sk:=⟨[(0, .d (.li (.it .u64))),(1, .d (.li (.it .u64))),(5, .d (.it .i64))],[]⟩
noncomputable def les259 (gl0:(List Int)→(List Int)→Int→Option R259):List (LoE R259):=[⟨6,k259l0,fun s=>gl0 s.1.1 s.1.2.1 s.1.2.2.1⟩]
noncomputable def fes259:List FE:=[]
section
variable (gl0:(List Int)→(List Int)→Int→Option R259)
noncomputable def B259l0 (x0:(List Int)) (x1:(List Int)) (x5:Int):Option R259:=if x5≥0 then(if 0≤x5 then(if x5<(x0.length:Int)then(if 0≤x5 then(if x5<(x1.length:Int)then(if rd x0 x5≠rd x1 x5 then(if 0≤x5 then(if x5<(x0.length:Int)then(if 0≤x5 then(if x5<(x1.length:Int)then(if rd x0 x5<rd x1 x5 then(some (-1))else(some 1))else(none))else(none))else(none))else(none))else(gl0 x0 x1 (wrap64 (x5-1))))else(none))else(none))else(none))else(none))else(some 0)
theorem e259l0 (s0:SbT ask259.bl) (s:k259l0.T):evPos E0 (orcOf (fes259)) 41 an259 (loOf (les259 gl0)) (rk259 s0) (p259.getD 0 ⟨0,[], .skip⟩) (k259l0.mk' s)=B259l0 gl0 s.1.1 s.1.2.1 s.1.2.2.1:=by kernel_rfl
noncomputable def B259 (x0:(List Int)) (x1:(List Int)):Option R259:=if(x0.length:Int)≠(x1.length:Int)then(if(x0.length:Int)<(x1.length:Int)then(some (-1))else(some 1))else(gl0 x0 x1 (wrap64 ((x0.length:Int)-1)))
theorem e259 (s:ask259.T):evFn E0 (orcOf (fes259)) an259 (loOf (les259 gl0)) 41 cd259 Tryz.f259.results.toList rm259 (ask259.mk' s) (decW rsk259 dec259)=B259 gl0 s.1.1 s.1.2.1:=by kernel_rfl
end
noncomputable def an272:Ann:=⟨[],[],[]⟩
noncomputable def cd272:Code:=(Tryz.f272.body).getD .skip
noncomputable def rm272:List RM:=[.d (.it .i64)]
noncomputable def les272:List (LoE R272):=[]
noncomputable def fes272:List FE:=[]
noncomputable def B272 (x0:Int):Option R272:=if x0≥4294967296 then(if(0:Int)≤32 then(if x0/4294967296≥65536 then(if(0:Int)≤16 then(if(x0/4294967296)/65536≥256 then(if(0:Int)≤8 then(if 0≤IntKind.u8.wrap (((x0/4294967296)/65536)/256)then(if IntKind.u8.wrap (((x0/4294967296)/65536)/256)<((⟨#[0,1,2,2,3,3,3,3,4,4,4,4,4,4,4,4,5,5,5,5,5,5,5,5,5,5,5,5,5,5,5,5,6,6,6,6,6,6,6,6,6,6,6,6,6,6,6,6,6,6,6,6,6,6,6,6,6,6,6,6,6,6,6,6,7,7,7,7,7,7,7,7,7,7,7,7,7,7,7,7,7,7,7,7,7,7,7,7,7,7,7,7,7,7,7,7,7,7,7,7,7,7,7,7,7,7,7,7,7,7,7,7,7,7,7,7,7,7,7,7,7,7,7,7,7,7,7,7,8,8,8,8,8,8,8,8,8,8,8,8,8,8,8,8,8,8,8,8,8,8,8,8,8,8,8,8,8,8,8,8,8,8,8,8,8,8,8,8,8,8,8,8,8,8,8,8,8,8,8,8,8,8,8,8,8,8,8,8,8,8,8,8,8,8,8,8,8,8,8,8,8,8,8,8,8,8,8,8,8,8,8,8,8,8,8,8,8,8,8,8,8,8,8,8,8,8,8,8,8,8,8,8,8,8,8,8,8,8,8,8,8,8,8,8,8,8,8,8,8,8,8,8,8,8,8,8]⟩:ByteArray).size:Int)then(some (wrap64 (56+(wrap64 (bt (⟨#[0,1,2,2,3,3,3,3,4,4,4,4,4,4,4,4,5,5,5,5,5,5,5,5,5,5,5,5,5,5,5,5,6,6,6,6,6,6,6,6,6,6,6,6,6,6,6,6,6,6,6,6,6,6,6,6,6,6,6,6,6,6,6,6,7,7,7,7,7,7,7,7,7,7,7,7,7,7,7,7,7,7,7,7,7,7,7,7,7,7,7,7,7,7,7,7,7,7,7,7,7,7,7,7,7,7,7,7,7,7,7,7,7,7,7,7,7,7,7,7,7,7,7,7,7,7,7,7,8,8,8,8,8,8,8,8,8,8,8,8,8,8,8,8,8,8,8,8,8,8,8,8,8,8,8,8,8,8,8,8,8,8,8,8,8,8,8,8,8,8,8,8,8,8,8,8,8,8,8,8,8,8,8,8,8,8,8,8,8,8,8,8,8,8,8,8,8,8,8,8,8,8,8,8,8,8,8,8,8,8,8,8,8,8,8,8,8,8,8,8,8,8,8,8,8,8,8,8,8,8,8,8,8,8,8,8,8,8,8,8,8,8,8,8,8,8,8,8,8,8,8,8,8,8,8,8]⟩:ByteArray) (IntKind.u8.wrap (((x0/4294967296)/65536)/256)))))))else(none))else(none))else(none))else(if 0≤IntKind.u8.wrap ((x0/4294967296)/65536)then(if IntKind.u8.wrap ((x0/4294967296)/65536)<((⟨#[0,1,2,2,3,3,3,3,4,4,4,4,4,4,4,4,5,5,5,5,5,5,5,5,5,5,5,5,5,5,5,5,6,6,6,6,6,6,6,6,6,6,6,6,6,6,6,6,6,6,6,6,6,6,6,6,6,6,6,6,6,6,6,6,7,7,7,7,7,7,7,7,7,7,7,7,7,7,7,7,7,7,7,7,7,7,7,7,7,7,7,7,7,7,7,7,7,7,7,7,7,7,7,7,7,7,7,7,7,7,7,7,7,7,7,7,7,7,7,7,7,7,7,7,7,7,7,7,8,8,8,8,8,8,8,8,8,8,8,8,8,8,8,8,8,8,8,8,8,8,8,8,8,8,8,8,8,8,8,8,8,8,8,8,8,8,8,8,8,8,8,8,8,8,8,8,8,8,8,8,8,8,8,8,8,8,8,8,8,8,8,8,8,8,8,8,8,8,8,8,8,8,8,8,8,8,8,8,8,8,8,8,8,8,8,8,8,8,8,8,8,8,8,8,8,8,8,8,8,8,8,8,8,8,8,8,8,8,8,8,8,8,8,8,8,8,8,8,8,8,8,8,8,8,8,8]⟩:ByteArray).size:Int)then(some (wrap64 (48+(wrap64 (bt (⟨#[0,1,2,2,3,3,3,3,4,4,4,4,4,4,4,4,5,5,5,5,5,5,5,5,5,5,5,5,5,5,5,5,6,6,6,6,6,6,6,6,6,6,6,6,6,6,6,6,6,6,6,6,6,6,6,6,6,6,6,6,6,6,6,6,7,7,7,7,7,7,7,7,7,7,7,7,7,7,7,7,7,7,7,7,7,7,7,7,7,7,7,7,7,7,7,7,7,7,7,7,7,7,7,7,7,7,7,7,7,7,7,7,7,7,7,7,7,7,7,7,7,7,7,7,7,7,7,7,8,8,8,8,8,8,8,8,8,8,8,8,8,8,8,8,8,8,8,8,8,8,8,8,8,8,8,8,8,8,8,8,8,8,8,8,8,8,8,8,8,8,8,8,8,8,8,8,8,8,8,8,8,8,8,8,8,8,8,8,8,8,8,8,8,8,8,8,8,8,8,8,8,8,8,8,8,8,8,8,8,8,8,8,8,8,8,8,8,8,8,8,8,8,8,8,8,8,8,8,8,8,8,8,8,8,8,8,8,8,8,8,8,8,8,8,8,8,8,8,8,8,8,8,8,8,8,8]⟩:ByteArray) (IntKind.u8.wrap ((x0/4294967296)/65536)))))))else(none))else(none)))else(none))else(if x0/4294967296≥256 then(if(0:Int)≤8 then(if 0≤IntKind.u8.wrap ((x0/4294967296)/256)then(if IntKind.u8.wrap ((x0/4294967296)/256)<((⟨#[0,1,2,2,3,3,3,3,4,4,4,4,4,4,4,4,5,5,5,5,5,5,5,5,5,5,5,5,5,5,5,5,6,6,6,6,6,6,6,6,6,6,6,6,6,6,6,6,6,6,6,6,6,6,6,6,6,6,6,6,6,6,6,6,7,7,7,7,7,7,7,7,7,7,7,7,7,7,7,7,7,7,7,7,7,7,7,7,7,7,7,7,7,7,7,7,7,7,7,7,7,7,7,7,7,7,7,7,7,7,7,7,7,7,7,7,7,7,7,7,7,7,7,7,7,7,7,7,8,8,8,8,8,8,8,8,8,8,8,8,8,8,8,8,8,8,8,8,8,8,8,8,8,8,8,8,8,8,8,8,8,8,8,8,8,8,8,8,8,8,8,8,8,8,8,8,8,8,8,8,8,8,8,8,8,8,8,8,8,8,8,8,8,8,8,8,8,8,8,8,8,8,8,8,8,8,8,8,8,8,8,8,8,8,8,8,8,8,8,8,8,8,8,8,8,8,8,8,8,8,8,8,8,8,8,8,8,8,8,8,8,8,8,8,8,8,8,8,8,8,8,8,8,8,8,8]⟩:ByteArray).size:Int)then(some (wrap64 (40+(wrap64 (bt (⟨#[0,1,2,2,3,3,3,3,4,4,4,4,4,4,4,4,5,5,5,5,5,5,5,5,5,5,5,5,5,5,5,5,6,6,6,6,6,6,6,6,6,6,6,6,6,6,6,6,6,6,6,6,6,6,6,6,6,6,6,6,6,6,6,6,7,7,7,7,7,7,7,7,7,7,7,7,7,7,7,7,7,7,7,7,7,7,7,7,7,7,7,7,7,7,7,7,7,7,7,7,7,7,7,7,7,7,7,7,7,7,7,7,7,7,7,7,7,7,7,7,7,7,7,7,7,7,7,7,8,8,8,8,8,8,8,8,8,8,8,8,8,8,8,8,8,8,8,8,8,8,8,8,8,8,8,8,8,8,8,8,8,8,8,8,8,8,8,8,8,8,8,8,8,8,8,8,8,8,8,8,8,8,8,8,8,8,8,8,8,8,8,8,8,8,8,8,8,8,8,8,8,8,8,8,8,8,8,8,8,8,8,8,8,8,8,8,8,8,8,8,8,8,8,8,8,8,8,8,8,8,8,8,8,8,8,8,8,8,8,8,8,8,8,8,8,8,8,8,8,8,8,8,8,8,8,8]⟩:ByteArray) (IntKind.u8.wrap ((x0/4294967296)/256)))))))else(none))else(none))else(none))else(if 0≤IntKind.u8.wrap (x0/4294967296)then(if IntKind.u8.wrap (x0/4294967296)<((⟨#[0,1,2,2,3,3,3,3,4,4,4,4,4,4,4,4,5,5,5,5,5,5,5,5,5,5,5,5,5,5,5,5,6,6,6,6,6,6,6,6,6,6,6,6,6,6,6,6,6,6,6,6,6,6,6,6,6,6,6,6,6,6,6,6,7,7,7,7,7,7,7,7,7,7,7,7,7,7,7,7,7,7,7,7,7,7,7,7,7,7,7,7,7,7,7,7,7,7,7,7,7,7,7,7,7,7,7,7,7,7,7,7,7,7,7,7,7,7,7,7,7,7,7,7,7,7,7,7,8,8,8,8,8,8,8,8,8,8,8,8,8,8,8,8,8,8,8,8,8,8,8,8,8,8,8,8,8,8,8,8,8,8,8,8,8,8,8,8,8,8,8,8,8,8,8,8,8,8,8,8,8,8,8,8,8,8,8,8,8,8,8,8,8,8,8,8,8,8,8,8,8,8,8,8,8,8,8,8,8,8,8,8,8,8,8,8,8,8,8,8,8,8,8,8,8,8,8,8,8,8,8,8,8,8,8,8,8,8,8,8,8,8,8,8,8,8,8,8,8,8,8,8,8,8,8,8]⟩:ByteArray).size:Int)then(some (wrap64 (32+(wrap64 (bt (⟨#[0,1,2,2,3,3,3,3,4,4,4,4,4,4,4,4,5,5,5,5,5,5,5,5,5,5,5,5,5,5,5,5,6,6,6,6,6,6,6,6,6,6,6,6,6,6,6,6,6,6,6,6,6,6,6,6,6,6,6,6,6,6,6,6,7,7,7,7,7,7,7,7,7,7,7,7,7,7,7,7,7,7,7,7,7,7,7,7,7,7,7,7,7,7,7,7,7,7,7,7,7,7,7,7,7,7,7,7,7,7,7,7,7,7,7,7,7,7,7,7,7,7,7,7,7,7,7,7,8,8,8,8,8,8,8,8,8,8,8,8,8,8,8,8,8,8,8,8,8,8,8,8,8,8,8,8,8,8,8,8,8,8,8,8,8,8,8,8,8,8,8,8,8,8,8,8,8,8,8,8,8,8,8,8,8,8,8,8,8,8,8,8,8,8,8,8,8,8,8,8,8,8,8,8,8,8,8,8,8,8,8,8,8,8,8,8,8,8,8,8,8,8,8,8,8,8,8,8,8,8,8,8,8,8,8,8,8,8,8,8,8,8,8,8,8,8,8,8,8,8,8,8,8,8,8,8]⟩:ByteArray) (IntKind.u8.wrap (x0/4294967296)))))))else(none))else(none))))else(none))else(if x0≥65536 then(if(0:Int)≤16 then(if x0/65536≥256 then(if(0:Int)≤8 then(if 0≤IntKind.u8.wrap ((x0/65536)/256)then(if IntKind.u8.wrap ((x0/65536)/256)<((⟨#[0,1,2,2,3,3,3,3,4,4,4,4,4,4,4,4,5,5,5,5,5,5,5,5,5,5,5,5,5,5,5,5,6,6,6,6,6,6,6,6,6,6,6,6,6,6,6,6,6,6,6,6,6,6,6,6,6,6,6,6,6,6,6,6,7,7,7,7,7,7,7,7,7,7,7,7,7,7,7,7,7,7,7,7,7,7,7,7,7,7,7,7,7,7,7,7,7,7,7,7,7,7,7,7,7,7,7,7,7,7,7,7,7,7,7,7,7,7,7,7,7,7,7,7,7,7,7,7,8,8,8,8,8,8,8,8,8,8,8,8,8,8,8,8,8,8,8,8,8,8,8,8,8,8,8,8,8,8,8,8,8,8,8,8,8,8,8,8,8,8,8,8,8,8,8,8,8,8,8,8,8,8,8,8,8,8,8,8,8,8,8,8,8,8,8,8,8,8,8,8,8,8,8,8,8,8,8,8,8,8,8,8,8,8,8,8,8,8,8,8,8,8,8,8,8,8,8,8,8,8,8,8,8,8,8,8,8,8,8,8,8,8,8,8,8,8,8,8,8,8,8,8,8,8,8,8]⟩:ByteArray).size:Int)then(some (wrap64 (24+(wrap64 (bt (⟨#[0,1,2,2,3,3,3,3,4,4,4,4,4,4,4,4,5,5,5,5,5,5,5,5,5,5,5,5,5,5,5,5,6,6,6,6,6,6,6,6,6,6,6,6,6,6,6,6,6,6,6,6,6,6,6,6,6,6,6,6,6,6,6,6,7,7,7,7,7,7,7,7,7,7,7,7,7,7,7,7,7,7,7,7,7,7,7,7,7,7,7,7,7,7,7,7,7,7,7,7,7,7,7,7,7,7,7,7,7,7,7,7,7,7,7,7,7,7,7,7,7,7,7,7,7,7,7,7,8,8,8,8,8,8,8,8,8,8,8,8,8,8,8,8,8,8,8,8,8,8,8,8,8,8,8,8,8,8,8,8,8,8,8,8,8,8,8,8,8,8,8,8,8,8,8,8,8,8,8,8,8,8,8,8,8,8,8,8,8,8,8,8,8,8,8,8,8,8,8,8,8,8,8,8,8,8,8,8,8,8,8,8,8,8,8,8,8,8,8,8,8,8,8,8,8,8,8,8,8,8,8,8,8,8,8,8,8,8,8,8,8,8,8,8,8,8,8,8,8,8,8,8,8,8,8,8]⟩:ByteArray) (IntKind.u8.wrap ((x0/65536)/256)))))))else(none))else(none))else(none))else(if 0≤IntKind.u8.wrap (x0/65536)then(if IntKind.u8.wrap (x0/65536)<((⟨#[0,1,2,2,3,3,3,3,4,4,4,4,4,4,4,4,5,5,5,5,5,5,5,5,5,5,5,5,5,5,5,5,6,6,6,6,6,6,6,6,6,6,6,6,6,6,6,6,6,6,6,6,6,6,6,6,6,6,6,6,6,6,6,6,7,7,7,7,7,7,7,7,7,7,7,7,7,7,7,7,7,7,7,7,7,7,7,7,7,7,7,7,7,7,7,7,7,7,7,7,7,7,7,7,7,7,7,7,7,7,7,7,7,7,7,7,7,7,7,7,7,7,7,7,7,7,7,7,8,8,8,8,8,8,8,8,8,8,8,8,8,8,8,8,8,8,8,8,8,8,8,8,8,8,8,8,8,8,8,8,8,8,8,8,8,8,8,8,8,8,8,8,8,8,8,8,8,8,8,8,8,8,8,8,8,8,8,8,8,8,8,8,8,8,8,8,8,8,8,8,8,8,8,8,8,8,8,8,8,8,8,8,8,8,8,8,8,8,8,8,8,8,8,8,8,8,8,8,8,8,8,8,8,8,8,8,8,8,8,8,8,8,8,8,8,8,8,8,8,8,8,8,8,8,8,8]⟩:ByteArray).size:Int)then(some (wrap64 (16+(wrap64 (bt (⟨#[0,1,2,2,3,3,3,3,4,4,4,4,4,4,4,4,5,5,5,5,5,5,5,5,5,5,5,5,5,5,5,5,6,6,6,6,6,6,6,6,6,6,6,6,6,6,6,6,6,6,6,6,6,6,6,6,6,6,6,6,6,6,6,6,7,7,7,7,7,7,7,7,7,7,7,7,7,7,7,7,7,7,7,7,7,7,7,7,7,7,7,7,7,7,7,7,7,7,7,7,7,7,7,7,7,7,7,7,7,7,7,7,7,7,7,7,7,7,7,7,7,7,7,7,7,7,7,7,8,8,8,8,8,8,8,8,8,8,8,8,8,8,8,8,8,8,8,8,8,8,8,8,8,8,8,8,8,8,8,8,8,8,8,8,8,8,8,8,8,8,8,8,8,8,8,8,8,8,8,8,8,8,8,8,8,8,8,8,8,8,8,8,8,8,8,8,8,8,8,8,8,8,8,8,8,8,8,8,8,8,8,8,8,8,8,8,8,8,8,8,8,8,8,8,8,8,8,8,8,8,8,8,8,8,8,8,8,8,8,8,8,8,8,8,8,8,8,8,8,8,8,8,8,8,8,8]⟩:ByteArray) (IntKind.u8.wrap (x0/65536)))))))else(none))else(none)))else(none))else(if x0≥256 then(if(0:Int)≤8 then(if 0≤IntKind.u8.wrap (x0/256)then(if IntKind.u8.wrap (x0/256)<((⟨#[0,1,2,2,3,3,3,3,4,4,4,4,4,4,4,4,5,5,5,5,5,5,5,5,5,5,5,5,5,5,5,5,6,6,6,6,6,6,6,6,6,6,6,6,6,6,6,6,6,6,6,6,6,6,6,6,6,6,6,6,6,6,6,6,7,7,7,7,7,7,7,7,7,7,7,7,7,7,7,7,7,7,7,7,7,7,7,7,7,7,7,7,7,7,7,7,7,7,7,7,7,7,7,7,7,7,7,7,7,7,7,7,7,7,7,7,7,7,7,7,7,7,7,7,7,7,7,7,8,8,8,8,8,8,8,8,8,8,8,8,8,8,8,8,8,8,8,8,8,8,8,8,8,8,8,8,8,8,8,8,8,8,8,8,8,8,8,8,8,8,8,8,8,8,8,8,8,8,8,8,8,8,8,8,8,8,8,8,8,8,8,8,8,8,8,8,8,8,8,8,8,8,8,8,8,8,8,8,8,8,8,8,8,8,8,8,8,8,8,8,8,8,8,8,8,8,8,8,8,8,8,8,8,8,8,8,8,8,8,8,8,8,8,8,8,8,8,8,8,8,8,8,8,8,8,8]⟩:ByteArray).size:Int)then(some (wrap64 (8+(wrap64 (bt (⟨#[0,1,2,2,3,3,3,3,4,4,4,4,4,4,4,4,5,5,5,5,5,5,5,5,5,5,5,5,5,5,5,5,6,6,6,6,6,6,6,6,6,6,6,6,6,6,6,6,6,6,6,6,6,6,6,6,6,6,6,6,6,6,6,6,7,7,7,7,7,7,7,7,7,7,7,7,7,7,7,7,7,7,7,7,7,7,7,7,7,7,7,7,7,7,7,7,7,7,7,7,7,7,7,7,7,7,7,7,7,7,7,7,7,7,7,7,7,7,7,7,7,7,7,7,7,7,7,7,8,8,8,8,8,8,8,8,8,8,8,8,8,8,8,8,8,8,8,8,8,8,8,8,8,8,8,8,8,8,8,8,8,8,8,8,8,8,8,8,8,8,8,8,8,8,8,8,8,8,8,8,8,8,8,8,8,8,8,8,8,8,8,8,8,8,8,8,8,8,8,8,8,8,8,8,8,8,8,8,8,8,8,8,8,8,8,8,8,8,8,8,8,8,8,8,8,8,8,8,8,8,8,8,8,8,8,8,8,8,8,8,8,8,8,8,8,8,8,8,8,8,8,8,8,8,8,8]⟩:ByteArray) (IntKind.u8.wrap (x0/256)))))))else(none))else(none))else(none))else(if 0≤IntKind.u8.wrap (x0)then(if IntKind.u8.wrap (x0)<((⟨#[0,1,2,2,3,3,3,3,4,4,4,4,4,4,4,4,5,5,5,5,5,5,5,5,5,5,5,5,5,5,5,5,6,6,6,6,6,6,6,6,6,6,6,6,6,6,6,6,6,6,6,6,6,6,6,6,6,6,6,6,6,6,6,6,7,7,7,7,7,7,7,7,7,7,7,7,7,7,7,7,7,7,7,7,7,7,7,7,7,7,7,7,7,7,7,7,7,7,7,7,7,7,7,7,7,7,7,7,7,7,7,7,7,7,7,7,7,7,7,7,7,7,7,7,7,7,7,7,8,8,8,8,8,8,8,8,8,8,8,8,8,8,8,8,8,8,8,8,8,8,8,8,8,8,8,8,8,8,8,8,8,8,8,8,8,8,8,8,8,8,8,8,8,8,8,8,8,8,8,8,8,8,8,8,8,8,8,8,8,8,8,8,8,8,8,8,8,8,8,8,8,8,8,8,8,8,8,8,8,8,8,8,8,8,8,8,8,8,8,8,8,8,8,8,8,8,8,8,8,8,8,8,8,8,8,8,8,8,8,8,8,8,8,8,8,8,8,8,8,8,8,8,8,8,8,8]⟩:ByteArray).size:Int)then(some (wrap64 (0+(wrap64 (bt (⟨#[0,1,2,2,3,3,3,3,4,4,4,4,4,4,4,4,5,5,5,5,5,5,5,5,5,5,5,5,5,5,5,5,6,6,6,6,6,6,6,6,6,6,6,6,6,6,6,6,6,6,6,6,6,6,6,6,6,6,6,6,6,6,6,6,7,7,7,7,7,7,7,7,7,7,7,7,7,7,7,7,7,7,7,7,7,7,7,7,7,7,7,7,7,7,7,7,7,7,7,7,7,7,7,7,7,7,7,7,7,7,7,7,7,7,7,7,7,7,7,7,7,7,7,7,7,7,7,7,8,8,8,8,8,8,8,8,8,8,8,8,8,8,8,8,8,8,8,8,8,8,8,8,8,8,8,8,8,8,8,8,8,8,8,8,8,8,8,8,8,8,8,8,8,8,8,8,8,8,8,8,8,8,8,8,8,8,8,8,8,8,8,8,8,8,8,8,8,8,8,8,8,8,8,8,8,8,8,8,8,8,8,8,8,8,8,8,8,8,8,8,8,8,8,8,8,8,8,8,8,8,8,8,8,8,8,8,8,8,8,8,8,8,8,8,8,8,8,8,8,8,8,8,8,8,8,8]⟩:ByteArray) (IntKind.u8.wrap (x0)))))))else(none))else(none))))
theorem e272 (s:ask272.T):evFn E0 (orcOf (fes272)) an272 (loOf (les272)) 25 cd272 Tryz.f272.results.toList rm272 (ask272.mk' s) (decW rsk272 dec272)=B272 s.1.1:=by kernel_rfl
noncomputable def an261:Ann:=⟨[],[],[]⟩
noncomputable def cd261:Code:=(Tryz.f261.body).getD .skip
noncomputable def rm261:List RM:=[.d (.it .i64)]
noncomputable def les261:List (LoE R261):=[]
noncomputable def fes261 (c272:Int→Option R272):List FE:=[(fe272 c272)]
section
variable (c272:Int→Option R272)
noncomputable def B261 (x0:Int):Option R261:=(c272 x0).bind fun r1=>(some (wrap64 (64-r1)))
theorem e261 (s:ask261.T):evFn E0 (orcOf (fes261 c272)) an261 (loOf (les261)) 6 cd261 Tryz.f261.results.toList rm261 (ask261.mk' s) (decW rsk261 dec261)=B261 c272 s.1.1:=by kernel_rfl
end
noncomputable def an260:Ann:=⟨[(17,[(2, .any),(8, .any),(9, .any),(10, .any),(11, .any),(13, .any),(14, .any),(15, .any),(16, .any)]),(24,[(2, .any),(8, .any),(9, .any),(10, .any),(14, .any),(15, .any),(16, .any),(17, .any),(18, .any)])],[],[]⟩
noncomputable def cd260:Code:=(Tryz.f260.body).getD .skip
noncomputable def p260:List Pos:=posns an260 [] cd260
noncomputable def rm260:List RM:=[.d (.it .u64), .d (.it .u64)]
noncomputable def rk260 (s0:SbT ask260.bl):KX R260:=retK E0 Tryz.f260.results.toList rm260 (mkB ask260.bl s0) (decW rsk260 dec260)
noncomputable def k260l0:Sk:=⟨[(2, .d (.it .u64)),(8, .d (.it .u64)),(9, .d (.it .u64)),(10, .d (.it .u64)),(11, .d (.it .u64)),(13, .d (.it .u64)),(14, .d (.it .u64)),(15, .d (.it .u64)),(16, .d (.it .u64))],[]⟩
noncomputable def k260l1:Sk:=⟨[(2, .d (.it .u64)),(8, .d (.it .u64)),(9, .d (.it .u64)),(10, .d (.it .u64)),(14, .d (.it .u64)),(15, .d (.it .u64)),(16, .d (.it .u64)),(17, .d (.it .u64)),(18, .d (.it .u64))],[]⟩
noncomputable def les260 (gl0:Int→Int→Int→Int→Int→Int→Int→Int→Int→Option R260) (gl1:Int→Int→Int→Int→Int→Int→Int→Int→Int→Option R260):List (LoE R260):=[⟨17,k260l0,fun s=>gl0 s.1.1 s.1.2.1 s.1.2.2.1 s.1.2.2.2.1 s.1.2.2.2.2.1 s.1.2.2.2.2.2.1 s.1.2.2.2.2.2.2.1 s.1.2.2.2.2.2.2.2.1 s.1.2.2.2.2.2.2.2.2.1⟩,⟨24,k260l1,fun s=>gl1 s.1.1 s.1.2.1 s.1.2.2.1 s.1.2.2.2.1 s.1.2.2.2.2.1 s.1.2.2.2.2.2.1 s.1.2.2.2.2.2.2.1 s.1.2.2.2.2.2.2.2.1 s.1.2.2.2.2.2.2.2.2.1⟩]
noncomputable def fes260 (c261:Int→Option R261):List FE:=[(fe261 c261)]
section
variable (gl0:Int→Int→Int→Int→Int→Int→Int→Int→Int→Option R260) (gl1:Int→Int→Int→Int→Int→Int→Int→Int→Int→Option R260) (c261:Int→Option R261)
noncomputable def B260l0 (x2:Int) (x8:Int) (x9:Int) (x10:Int) (x11:Int) (x13:Int) (x14:Int) (x15:Int) (x16:Int):Option R260:=if x15≥4294967296 then(if IntKind.u64.wrap (x16+x9)≥4294967296 then(if x9=0 then(none)else(gl1 x2 x8 x9 x10 x14 (IntKind.u64.wrap (x15-1)) (IntKind.u64.wrap ((IntKind.u64.wrap ((IntKind.u64.wrap ((IntKind.u64.wrap (x11*4294967296))+x13))-(IntKind.u64.wrap ((IntKind.u64.wrap (x15-1))*x2))))-(IntKind.u64.wrap ((IntKind.u64.wrap (Int.tdiv (IntKind.u64.wrap ((IntKind.u64.wrap ((IntKind.u64.wrap (x11*4294967296))+x13))-(IntKind.u64.wrap ((IntKind.u64.wrap (x15-1))*x2)))) x9))*x9)))) (IntKind.u64.wrap ((IntKind.u64.wrap ((IntKind.u64.wrap (x11*4294967296))+x13))-(IntKind.u64.wrap ((IntKind.u64.wrap (x15-1))*x2)))) (IntKind.u64.wrap (Int.tdiv (IntKind.u64.wrap ((IntKind.u64.wrap ((IntKind.u64.wrap (x11*4294967296))+x13))-(IntKind.u64.wrap ((IntKind.u64.wrap (x15-1))*x2)))) x9))))else(gl0 x2 x8 x9 x10 x11 x13 x14 (IntKind.u64.wrap (x15-1)) (IntKind.u64.wrap (x16+x9))))else(if IntKind.u64.wrap (x15*x10)>IntKind.u64.wrap ((IntKind.u64.wrap (4294967296*x16))+x13)then(if IntKind.u64.wrap (x16+x9)≥4294967296 then(if x9=0 then(none)else(gl1 x2 x8 x9 x10 x14 (IntKind.u64.wrap (x15-1)) (IntKind.u64.wrap ((IntKind.u64.wrap ((IntKind.u64.wrap ((IntKind.u64.wrap (x11*4294967296))+x13))-(IntKind.u64.wrap ((IntKind.u64.wrap (x15-1))*x2))))-(IntKind.u64.wrap ((IntKind.u64.wrap (Int.tdiv (IntKind.u64.wrap ((IntKind.u64.wrap ((IntKind.u64.wrap (x11*4294967296))+x13))-(IntKind.u64.wrap ((IntKind.u64.wrap (x15-1))*x2)))) x9))*x9)))) (IntKind.u64.wrap ((IntKind.u64.wrap ((IntKind.u64.wrap (x11*4294967296))+x13))-(IntKind.u64.wrap ((IntKind.u64.wrap (x15-1))*x2)))) (IntKind.u64.wrap (Int.tdiv (IntKind.u64.wrap ((IntKind.u64.wrap ((IntKind.u64.wrap (x11*4294967296))+x13))-(IntKind.u64.wrap ((IntKind.u64.wrap (x15-1))*x2)))) x9))))else(gl0 x2 x8 x9 x10 x11 x13 x14 (IntKind.u64.wrap (x15-1)) (IntKind.u64.wrap (x16+x9))))else(if x9=0 then(none)else(gl1 x2 x8 x9 x10 x14 x15 (IntKind.u64.wrap ((IntKind.u64.wrap ((IntKind.u64.wrap ((IntKind.u64.wrap (x11*4294967296))+x13))-(IntKind.u64.wrap (x15*x2))))-(IntKind.u64.wrap ((IntKind.u64.wrap (Int.tdiv (IntKind.u64.wrap ((IntKind.u64.wrap ((IntKind.u64.wrap (x11*4294967296))+x13))-(IntKind.u64.wrap (x15*x2)))) x9))*x9)))) (IntKind.u64.wrap ((IntKind.u64.wrap ((IntKind.u64.wrap (x11*4294967296))+x13))-(IntKind.u64.wrap (x15*x2)))) (IntKind.u64.wrap (Int.tdiv (IntKind.u64.wrap ((IntKind.u64.wrap ((IntKind.u64.wrap (x11*4294967296))+x13))-(IntKind.u64.wrap (x15*x2)))) x9)))))
theorem e260l0 (s0:SbT ask260.bl) (s:k260l0.T):evPos E0 (orcOf (fes260 c261)) 135 an260 (loOf (les260 gl0 gl1)) (rk260 s0) (p260.getD 0 ⟨0,[], .skip⟩) (k260l0.mk' s)=B260l0 gl0 gl1 s.1.1 s.1.2.1 s.1.2.2.1 s.1.2.2.2.1 s.1.2.2.2.2.1 s.1.2.2.2.2.2.1 s.1.2.2.2.2.2.2.1 s.1.2.2.2.2.2.2.2.1 s.1.2.2.2.2.2.2.2.2.1:=by kernel_rfl
noncomputable def B260l1 (x2:Int) (x8:Int) (x9:Int) (x10:Int) (x14:Int) (x15:Int) (x16:Int) (x17:Int) (x18:Int):Option R260:=if x18≥4294967296 then(if IntKind.u64.wrap (x16+x9)≥4294967296 then(if 0≤x8 then(some (IntKind.u64.wrap ((IntKind.u64.wrap (x15*4294967296))+(IntKind.u64.wrap (x18-1))),shr .u64 (IntKind.u64.wrap ((IntKind.u64.wrap ((IntKind.u64.wrap (x17*4294967296))+x14))-(IntKind.u64.wrap ((IntKind.u64.wrap (x18-1))*x2)))) x8))else(none))else(gl1 x2 x8 x9 x10 x14 x15 (IntKind.u64.wrap (x16+x9)) x17 (IntKind.u64.wrap (x18-1))))else(if IntKind.u64.wrap (x18*x10)>IntKind.u64.wrap ((IntKind.u64.wrap (4294967296*x16))+x14)then(if IntKind.u64.wrap (x16+x9)≥4294967296 then(if 0≤x8 then(some (IntKind.u64.wrap ((IntKind.u64.wrap (x15*4294967296))+(IntKind.u64.wrap (x18-1))),shr .u64 (IntKind.u64.wrap ((IntKind.u64.wrap ((IntKind.u64.wrap (x17*4294967296))+x14))-(IntKind.u64.wrap ((IntKind.u64.wrap (x18-1))*x2)))) x8))else(none))else(gl1 x2 x8 x9 x10 x14 x15 (IntKind.u64.wrap (x16+x9)) x17 (IntKind.u64.wrap (x18-1))))else(if 0≤x8 then(some (IntKind.u64.wrap ((IntKind.u64.wrap (x15*4294967296))+x18),shr .u64 (IntKind.u64.wrap ((IntKind.u64.wrap ((IntKind.u64.wrap (x17*4294967296))+x14))-(IntKind.u64.wrap (x18*x2)))) x8))else(none)))
theorem e260l1 (s0:SbT ask260.bl) (s:k260l1.T):evPos E0 (orcOf (fes260 c261)) 135 an260 (loOf (les260 gl0 gl1)) (rk260 s0) (p260.getD 1 ⟨0,[], .skip⟩) (k260l1.mk' s)=B260l1 gl1 s.1.1 s.1.2.1 s.1.2.2.1 s.1.2.2.2.1 s.1.2.2.2.2.1 s.1.2.2.2.2.2.1 s.1.2.2.2.2.2.2.1 s.1.2.2.2.2.2.2.2.1 s.1.2.2.2.2.2.2.2.2.1:=by kernel_rfl
noncomputable def B260 (x0:Int) (x1:Int) (x2:Int):Option R260:=if x2=0 then(none)else(if x2≤x0 then(none)else(if x0=0 then(if x2=0 then(none)else(if x2=0 then(none)else(some (IntKind.u64.wrap (Int.tdiv x1 x2),Int.tmod x1 x2))))else((c261 x2).bind fun r1=>(if 0≤IntKind.u64.wrap (r1)then(if(0:Int)≤32 then(if 0≤IntKind.u64.wrap (r1)then(if 0≤IntKind.u64.wrap (64-(IntKind.u64.wrap (r1)))then(if 0≤IntKind.u64.wrap (r1)then(if(0:Int)≤32 then(if(shl .u64 x2 (IntKind.u64.wrap (r1)))/4294967296=0 then(none)else(gl0 (shl .u64 x2 (IntKind.u64.wrap (r1))) (IntKind.u64.wrap (r1)) ((shl .u64 x2 (IntKind.u64.wrap (r1)))/4294967296) (Go.bits .and .u64 (shl .u64 x2 (IntKind.u64.wrap (r1))) 4294967295) (Go.bits .or .u64 (shl .u64 x0 (IntKind.u64.wrap (r1))) (shr .u64 x1 (IntKind.u64.wrap (64-(IntKind.u64.wrap (r1)))))) ((shl .u64 x1 (IntKind.u64.wrap (r1)))/4294967296) (Go.bits .and .u64 (shl .u64 x1 (IntKind.u64.wrap (r1))) 4294967295) (IntKind.u64.wrap (Int.tdiv (Go.bits .or .u64 (shl .u64 x0 (IntKind.u64.wrap (r1))) (shr .u64 x1 (IntKind.u64.wrap (64-(IntKind.u64.wrap (r1)))))) ((shl .u64 x2 (IntKind.u64.wrap (r1)))/4294967296))) (IntKind.u64.wrap ((Go.bits .or .u64 (shl .u64 x0 (IntKind.u64.wrap (r1))) (shr .u64 x1 (IntKind.u64.wrap (64-(IntKind.u64.wrap (r1))))))-(IntKind.u64.wrap ((IntKind.u64.wrap (Int.tdiv (Go.bits .or .u64 (shl .u64 x0 (IntKind.u64.wrap (r1))) (shr .u64 x1 (IntKind.u64.wrap (64-(IntKind.u64.wrap (r1)))))) ((shl .u64 x2 (IntKind.u64.wrap (r1)))/4294967296)))*((shl .u64 x2 (IntKind.u64.wrap (r1)))/4294967296)))))))else(none))else(none))else(none))else(none))else(none))else(none)))))
theorem e260 (s:ask260.T):evFn E0 (orcOf (fes260 c261)) an260 (loOf (les260 gl0 gl1)) 135 cd260 Tryz.f260.results.toList rm260 (ask260.mk' s) (decW rsk260 dec260)=B260 gl0 c261 s.1.1 s.1.2.1 s.1.2.2.1:=by kernel_rfl
end
noncomputable def an262:Ann:=⟨[(3,[(1, .any),(5, .any),(12, .any),(13, .any),(14, .any)])],[],[]⟩
noncomputable def cd262:Code:=(Tryz.f262.body).getD .skip
noncomputable def p262:List Pos:=posns an262 [] cd262
noncomputable def rm262:List RM:=[.own (.it .u64)]
noncomputable def rk262 (s0:SbT ask262.bl):KX R262:=retK E0 Tryz.f262.results.toList rm262 (mkB ask262.bl s0) (decW rsk262 dec262)
noncomputable def k262l0:Sk:=⟨[(1, .d (.it .i64)),(5, .f (.a (.ref 5))),(12, .d (.li (.it .u64))),(13, .d (.it .i64)),(14, .d (.it .i64))],[(5, .own (.it .u64) true)]⟩
noncomputable def les262 (gl0:Int→(List Int)→Int→Int→(List Int)→Option R262):List (LoE R262):=[⟨3,k262l0,fun s=>gl0 s.1.1 s.1.2.1 s.1.2.2.1 s.1.2.2.2.1 s.2.1⟩]
noncomputable def fes262:List FE:=[]
section
variable (gl0:Int→(List Int)→Int→Int→(List Int)→Option R262)
noncomputable def B262l0 (x1:Int) (x12:(List Int)) (x13:Int) (x14:Int) (x5:(List Int)):Option R262:=if x14<x13 then(if 0≤x14 then(if x14<(x12.length:Int)then(if 0≤x14 then(if x14<(x5.length:Int)then(if 0≤x1 then(if 0≤x14 then(if x14<(x5.length:Int)then(if x1>0 then(if 0≤wrap64 (64-x1)then(if 0≤wrap64 (x14+1)then(if wrap64 (x14+1)<((x5.set (x14:Int).toNat (Go.bits .or .u64 (rd x5 x14) (shl .u64 (rd x12 x14) x1))).length:Int)then(gl0 x1 x12 x13 (wrap64 (x14+1)) ((x5.set (x14:Int).toNat (Go.bits .or .u64 (rd x5 x14) (shl .u64 (rd x12 x14) x1))).set (wrap64 (x14+1):Int).toNat (shr .u64 (rd x12 x14) (wrap64 (64-x1)))))else(none))else(none))else(none))else(gl0 x1 x12 x13 (wrap64 (x14+1)) (x5.set (x14:Int).toNat (Go.bits .or .u64 (rd x5 x14) (shl .u64 (rd x12 x14) x1)))))else(none))else(none))else(none))else(none))else(none))else(none))else(none))else(some x5)
theorem e262l0 (s0:SbT ask262.bl) (s:k262l0.T):evPos E0 (orcOf (fes262)) 40 an262 (loOf (les262 gl0)) (rk262 s0) (p262.getD 0 ⟨0,[], .skip⟩) (k262l0.mk' s)=B262l0 gl0 s.1.1 s.1.2.1 s.1.2.2.1 s.1.2.2.2.1 s.2.1:=by kernel_rfl
noncomputable def B262 (x0:(List Int)) (x1:Int):Option R262:=if 0≤wrap64 ((x0.length:Int)+1)then(if wrap64 ((x0.length:Int)+1)≤wrap64 ((x0.length:Int)+1)then(if(wrap64 ((x0.length:Int)+1):Int).toNat≤35184372088832 then(gl0 x1 x0 (x0.length:Int) 0 (List.replicate (wrap64 ((x0.length:Int)+1):Int).toNat (0:Int)))else(none))else(none))else(none)
theorem e262 (s:ask262.T):evFn E0 (orcOf (fes262)) an262 (loOf (les262 gl0)) 40 cd262 Tryz.f262.results.toList rm262 (ask262.mk' s) (decW rsk262 dec262)=B262 gl0 s.1.1 s.1.2.1:=by kernel_rfl
end
noncomputable def an263:Ann:=⟨[(8,[(0, .any),(1, .any),(5, .any),(6, .any),(7, .any),(8, .any)]),(15,[(0, .any),(1, .any),(5, .any),(6, .any),(11, .any),(12, .any),(104, .any),(105, .any)]),(28,[(0, .any),(1, .any),(5, .any),(6, .any),(17, .any),(156, .any),(157, .any)])],[],[]⟩
noncomputable def cd263:Code:=(Tryz.f263.body).getD .skip
noncomputable def p263:List Pos:=posns an263 [] cd263
noncomputable def rm263:List RM:=[.d (.it .u64)]
noncomputable def rk263 (s0:SbT ask263.bl):KX R263:=retK E0 Tryz.f263.results.toList rm263 (mkB ask263.bl s0) (decW rsk263 dec263)
noncomputable def k263l0:Sk:=⟨[(0, .f (.a (.ref 2000))),(1, .d (.li (.it .u64))),(5, .d (.it .i64)),(6, .d (.it .u64)),(7, .d (.it .u64)),(8, .d (.it .u64))],[(2000, .own (.it .u64) false)]⟩
noncomputable def k263l1:Sk:=⟨[(0, .f (.a (.ref 2000))),(1, .d (.li (.it .u64))),(5, .d (.it .i64)),(6, .d (.it .u64)),(11, .d (.it .u64)),(12, .d (.it .u64)),(104, .d (.it .i64)),(105, .d (.it .i64))],[(2000, .own (.it .u64) false)]⟩
noncomputable def k263l2:Sk:=⟨[(0, .f (.a (.ref 2000))),(1, .d (.li (.it .u64))),(5, .d (.it .i64)),(6, .d (.it .u64)),(17, .d (.it .u64)),(156, .d (.it .i64)),(157, .d (.it .i64))],[(2000, .own (.it .u64) false)]⟩
noncomputable def les263 (gl0:(List Int)→Int→Int→Int→Int→(List Int)→Option R263) (gl1:(List Int)→Int→Int→Int→Int→Int→Int→(List Int)→Option R263) (gl2:(List Int)→Int→Int→Int→Int→Int→(List Int)→Option R263):List (LoE R263):=[⟨8,k263l0,fun s=>gl0 s.1.1 s.1.2.1 s.1.2.2.1 s.1.2.2.2.1 s.1.2.2.2.2.1 s.2.1⟩,⟨15,k263l1,fun s=>gl1 s.1.1 s.1.2.1 s.1.2.2.1 s.1.2.2.2.1 s.1.2.2.2.2.1 s.1.2.2.2.2.2.1 s.1.2.2.2.2.2.2.1 s.2.1⟩,⟨28,k263l2,fun s=>gl2 s.1.1 s.1.2.1 s.1.2.2.1 s.1.2.2.2.1 s.1.2.2.2.2.1 s.1.2.2.2.2.2.1 s.2.1⟩]
noncomputable def fes263 (c232:Int→Int→Int→Option R232) (c251:Int→Int→Int→Option R251) (c252:Int→Int→Option R252) (c260:Int→Int→Int→Option R260):List FE:=[(fe232 c232),(fe251 c251),(fe252 c252),(fe260 c260)]
section
variable (gl0:(List Int)→Int→Int→Int→Int→(List Int)→Option R263) (gl1:(List Int)→Int→Int→Int→Int→Int→Int→(List Int)→Option R263) (gl2:(List Int)→Int→Int→Int→Int→Int→(List Int)→Option R263) (c232:Int→Int→Int→Option R232) (c251:Int→Int→Int→Option R251) (c252:Int→Int→Option R252) (c260:Int→Int→Int→Option R260)
noncomputable def B263l0 (x1:(List Int)) (x5:Int) (x6:Int) (x7:Int) (x8:Int) (y0:(List Int)):Option R263:=if x8=0 then(if 0≤wrap64 (x5-2)then(if wrap64 (x5-2)<(x1.length:Int)then((c252 x6 (rd x1 (wrap64 (x5-2)))).bind fun r1=>(if r1.1<x7 then(gl1 x1 x5 x6 0 0 x5 0 y0)else(if r1.1=x7 then(if 0≤wrap64 (x5-2)then(if wrap64 (x5-2)<(y0.length:Int)then(if r1.2≤rd y0 (wrap64 (x5-2))then(gl1 x1 x5 x6 0 0 x5 0 y0)else(if 0≤wrap64 (x5-1)then(if wrap64 (x5-1)<(x1.length:Int)then((c251 x7 (rd x1 (wrap64 (x5-1))) 0).bind fun r2=>(gl0 x1 x5 (IntKind.u64.wrap (x6-1)) r2.1 r2.2 y0))else(none))else(none)))else(none))else(none))else(if 0≤wrap64 (x5-1)then(if wrap64 (x5-1)<(x1.length:Int)then((c251 x7 (rd x1 (wrap64 (x5-1))) 0).bind fun r3=>(gl0 x1 x5 (IntKind.u64.wrap (x6-1)) r3.1 r3.2 y0))else(none))else(none)))))else(none))else(none))else(gl1 x1 x5 x6 0 0 x5 0 y0)
theorem e263l0 (s0:SbT ask263.bl) (s:k263l0.T):evPos E0 (orcOf (fes263 c232 c251 c252 c260)) 186 an263 (loOf (les263 gl0 gl1 gl2)) (rk263 s0) (p263.getD 0 ⟨0,[], .skip⟩) (k263l0.mk' s)=B263l0 gl0 gl1 c251 c252 s.1.1 s.1.2.1 s.1.2.2.1 s.1.2.2.2.1 s.1.2.2.2.2.1 s.2.1:=by kernel_rfl
noncomputable def B263l1 (x1:(List Int)) (x5:Int) (x6:Int) (x11:Int) (x12:Int) (x104:Int) (x105:Int) (y0:(List Int)):Option R263:=if x105<x104 then(if 0≤x105 then(if x105<(x1.length:Int)then((c252 x6 (rd x1 x105)).bind fun r1=>((c251 r1.2 x12 0).bind fun r2=>(if 0≤x105 then(if x105<(y0.length:Int)then((c232 (rd y0 x105) r2.1 x11).bind fun r3=>(if 0≤x105 then(if x105<(y0.length:Int)then(gl1 x1 x5 x6 r3.2 (IntKind.u64.wrap (r1.1+r2.2)) x104 (wrap64 (x105+1)) (y0.set (x105:Int).toNat r3.1))else(none))else(none)))else(none))else(none))))else(none))else(none))else(if 0≤x5 then(if x5<(y0.length:Int)then((c232 (rd y0 x5) x12 x11).bind fun r4=>(if 0≤x5 then(if x5<(y0.length:Int)then(if r4.2=0 then(some (x6,y0.set (x5:Int).toNat r4.1))else(gl2 x1 x5 x6 0 x5 0 (y0.set (x5:Int).toNat r4.1)))else(none))else(none)))else(none))else(none))
theorem e263l1 (s0:SbT ask263.bl) (s:k263l1.T):evPos E0 (orcOf (fes263 c232 c251 c252 c260)) 186 an263 (loOf (les263 gl0 gl1 gl2)) (rk263 s0) (p263.getD 1 ⟨0,[], .skip⟩) (k263l1.mk' s)=B263l1 gl1 gl2 c232 c251 c252 s.1.1 s.1.2.1 s.1.2.2.1 s.1.2.2.2.1 s.1.2.2.2.2.1 s.1.2.2.2.2.2.1 s.1.2.2.2.2.2.2.1 s.2.1:=by kernel_rfl
noncomputable def B263l2 (x1:(List Int)) (x5:Int) (x6:Int) (x17:Int) (x156:Int) (x157:Int) (y0:(List Int)):Option R263:=if x157<x156 then(if 0≤x157 then(if x157<(y0.length:Int)then(if 0≤x157 then(if x157<(x1.length:Int)then((c251 (rd y0 x157) (rd x1 x157) x17).bind fun r1=>(if 0≤x157 then(if x157<(y0.length:Int)then(gl2 x1 x5 x6 r1.2 x156 (wrap64 (x157+1)) (y0.set (x157:Int).toNat r1.1))else(none))else(none)))else(none))else(none))else(none))else(none))else(if 0≤x5 then(if x5<(y0.length:Int)then(if 0≤x5 then(if x5<(y0.length:Int)then(some (IntKind.u64.wrap (x6-1),y0.set (x5:Int).toNat (IntKind.u64.wrap ((rd y0 x5)+x17))))else(none))else(none))else(none))else(none))
theorem e263l2 (s0:SbT ask263.bl) (s:k263l2.T):evPos E0 (orcOf (fes263 c232 c251 c252 c260)) 186 an263 (loOf (les263 gl0 gl1 gl2)) (rk263 s0) (p263.getD 2 ⟨0,[], .skip⟩) (k263l2.mk' s)=B263l2 gl2 c251 s.1.1 s.1.2.1 s.1.2.2.1 s.1.2.2.2.1 s.1.2.2.2.2.1 s.1.2.2.2.2.2.1 s.2.1:=by kernel_rfl
noncomputable def B263 (x1:(List Int)) (y0:(List Int)):Option R263:=if 0≤(x1.length:Int)then(if(x1.length:Int)<(y0.length:Int)then(if 0≤wrap64 ((x1.length:Int)-1)then(if wrap64 ((x1.length:Int)-1)<(x1.length:Int)then(if rd y0 (x1.length:Int)≥rd x1 (wrap64 ((x1.length:Int)-1))then(if 0≤wrap64 ((x1.length:Int)-1)then(if wrap64 ((x1.length:Int)-1)<(y0.length:Int)then(if 0≤wrap64 ((x1.length:Int)-1)then(if wrap64 ((x1.length:Int)-1)<(x1.length:Int)then((c251 (rd y0 (wrap64 ((x1.length:Int)-1))) (rd x1 (wrap64 ((x1.length:Int)-1))) 0).bind fun r1=>(gl0 x1 (x1.length:Int) 18446744073709551615 r1.1 r1.2 y0))else(none))else(none))else(none))else(none))else(if 0≤(x1.length:Int)then(if(x1.length:Int)<(y0.length:Int)then(if 0≤wrap64 ((x1.length:Int)-1)then(if wrap64 ((x1.length:Int)-1)<(y0.length:Int)then(if 0≤wrap64 ((x1.length:Int)-1)then(if wrap64 ((x1.length:Int)-1)<(x1.length:Int)then((c260 (rd y0 (x1.length:Int)) (rd y0 (wrap64 ((x1.length:Int)-1))) (rd x1 (wrap64 ((x1.length:Int)-1)))).bind fun r2=>(gl0 x1 (x1.length:Int) r2.1 r2.2 0 y0))else(none))else(none))else(none))else(none))else(none))else(none)))else(none))else(none))else(none))else(none)
theorem e263 (s:ask263.T):evFn E0 (orcOf (fes263 c232 c251 c252 c260)) an263 (loOf (les263 gl0 gl1 gl2)) 186 cd263 Tryz.f263.results.toList rm263 (ask263.mk' s) (decW rsk263 dec263)=B263 gl0 c251 c260 s.1.1 s.2.1:=by kernel_rfl
end
noncomputable def an233:Ann:=⟨[(7,[(0, .any),(1, .any),(6, .any),(7, .any),(8, .any)]),(17,[(9, .any),(10, .val (.li (.it .u64))),(11, .any),(12, .any),(13, .any),(14, .any)]),(21,[(9, .any),(11, .any),(12, .any),(13, .any),(96, .any),(97, .any)])],[],[]⟩
noncomputable def cd233:Code:=(Tryz.f233.body).getD .skip
noncomputable def p233:List Pos:=posns an233 [] cd233
noncomputable def rm233:List RM:=[.d (.li (.it .u64)), .d (.li (.it .u64))]
noncomputable def rk233 (s0:SbT ask233.bl):KX R233:=retK E0 Tryz.f233.results.toList rm233 (mkB ask233.bl s0) (decW rsk233 dec233)
noncomputable def k233l0:Sk:=⟨[(0, .d (.li (.it .u64))),(1, .d (.li (.it .u64))),(6, .f (.a (.ref 6))),(7, .d (.it .u64)),(8, .d (.it .i64))],[(6, .own (.it .u64) true)]⟩
noncomputable def k233l1:Sk:=⟨[(9, .d (.it .i64)),(10, .d (.li (.it .u64))),(11, .f (.a (.ref 11))),(12, .d (.it .i64)),(13, .f (.a (.ref 13))),(14, .d (.it .i64))],[(11, .own (.it .u64) true),(13, .own (.it .u64) true)]⟩
noncomputable def k233l2:Sk:=⟨[(9, .d (.it .i64)),(11, .f (.a (.ref 11))),(12, .d (.it .i64)),(13, .f (.a (.ref 13))),(96, .d (.it .i64)),(97, .d (.it .i64))],[(11, .own (.it .u64) true),(13, .own (.it .u64) true)]⟩
noncomputable def les233 (gl0:(List Int)→(List Int)→Int→Int→(List Int)→Option R233) (gl1:Int→(List Int)→Int→Int→(List Int)→(List Int)→Option R233) (gl2:Int→Int→Int→Int→(List Int)→(List Int)→Option R233):List (LoE R233):=[⟨7,k233l0,fun s=>gl0 s.1.1 s.1.2.1 s.1.2.2.1 s.1.2.2.2.1 s.2.1⟩,⟨17,k233l1,fun s=>gl1 s.1.1 s.1.2.1 s.1.2.2.1 s.1.2.2.2.1 s.2.1 s.2.2.1⟩,⟨21,k233l2,fun s=>gl2 s.1.1 s.1.2.1 s.1.2.2.1 s.1.2.2.2.1 s.2.1 s.2.2.1⟩]
noncomputable def fes233 (c234:(List Int)→Option R234) (c259:(List Int)→(List Int)→Option R259) (c260:Int→Int→Int→Option R260) (c261:Int→Option R261) (c262:(List Int)→Int→Option R262) (c263:(List Int)→(List Int)→Option R263):List FE:=[(fe234 c234),(fe259 c259),(fe260 c260),(fe261 c261),(fe262 c262),(fe263 c263)]
section
variable (gl0:(List Int)→(List Int)→Int→Int→(List Int)→Option R233) (gl1:Int→(List Int)→Int→Int→(List Int)→(List Int)→Option R233) (gl2:Int→Int→Int→Int→(List Int)→(List Int)→Option R233) (c234:(List Int)→Option R234) (c259:(List Int)→(List Int)→Option R259) (c260:Int→Int→Int→Option R260) (c261:Int→Option R261) (c262:(List Int)→Int→Option R262) (c263:(List Int)→(List Int)→Option R263)
noncomputable def B233l0 (x0:(List Int)) (x1:(List Int)) (x7:Int) (x8:Int) (x6:(List Int)):Option R233:=if x8≥0 then(if 0≤x8 then(if x8<(x0.length:Int)then(if(0:Int)≤0 then(if 0<(x1.length:Int)then((c260 x7 (rd x0 x8) (rd x1 0)).bind fun r1=>(if 0≤x8 then(if x8<(x6.length:Int)then(gl0 x0 x1 r1.2 (wrap64 (x8-1)) (x6.set (x8:Int).toNat r1.1))else(none))else(none)))else(none))else(none))else(none))else(none))else((c234 x6).bind fun r2=>((c234 ([x7]:List Int)).bind fun r3=>(some (r2.2.take (r2.1:Int).toNat,r3.2.take (r3.1:Int).toNat))))
theorem e233l0 (s0:SbT ask233.bl) (s:k233l0.T):evPos E0 (orcOf (fes233 c234 c259 c260 c261 c262 c263)) 137 an233 (loOf (les233 gl0 gl1 gl2)) (rk233 s0) (p233.getD 0 ⟨0,[], .skip⟩) (k233l0.mk' s)=B233l0 gl0 c234 c260 s.1.1 s.1.2.1 s.1.2.2.1 s.1.2.2.2.1 s.2.1:=by kernel_rfl
noncomputable def B233l1 (x9:Int) (x10:(List Int)) (x12:Int) (x14:Int) (x11:(List Int)) (x13:(List Int)):Option R233:=if x14≥0 then(if 0≤x14 then(if x14≤wrap64 ((wrap64 (x14+x12))+1)then(if wrap64 ((wrap64 (x14+x12))+1)≤(x11.length:Int)then(if(x11.length:Int)≤(x11.length:Int)then((c263 x10 (slice_ x11 x14 (wrap64 ((wrap64 (x14+x12))+1)))).bind fun r1=>(if 0≤x14 then(if x14<(x13.length:Int)then(gl1 x9 x10 x12 (wrap64 (x14-1)) (x11.take ((x14:Int).toNat)++r1.2++x11.drop ((wrap64 ((wrap64 (x14+x12))+1):Int).toNat)) (x13.set (x14:Int).toNat r1.1))else(none))else(none)))else(none))else(none))else(none))else(none))else(gl2 x9 x12 x12 0 x11 x13)
theorem e233l1 (s0:SbT ask233.bl) (s:k233l1.T):evPos E0 (orcOf (fes233 c234 c259 c260 c261 c262 c263)) 137 an233 (loOf (les233 gl0 gl1 gl2)) (rk233 s0) (p233.getD 1 ⟨0,[], .skip⟩) (k233l1.mk' s)=B233l1 gl1 gl2 c263 s.1.1 s.1.2.1 s.1.2.2.1 s.1.2.2.2.1 s.2.1 s.2.2.1:=by kernel_rfl
noncomputable def B233l2 (x9:Int) (x12:Int) (x96:Int) (x97:Int) (x11:(List Int)) (x13:(List Int)):Option R233:=if x97<x96 then(if 0≤x97 then(if x97<(x11.length:Int)then(if 0≤x9 then(if 0≤x97 then(if x97<(x11.length:Int)then(if x9>0 then(if wrap64 (x97+1)<((x11.set (x97:Int).toNat (shr .u64 (rd x11 x97) x9)).length:Int)then(if 0≤x97 then(if x97<((x11.set (x97:Int).toNat (shr .u64 (rd x11 x97) x9)).length:Int)then(if 0≤wrap64 (x97+1)then(if wrap64 (x97+1)<((x11.set (x97:Int).toNat (shr .u64 (rd x11 x97) x9)).length:Int)then(if 0≤wrap64 (64-x9)then(if 0≤x97 then(if x97<((x11.set (x97:Int).toNat (shr .u64 (rd x11 x97) x9)).length:Int)then(gl2 x9 x12 x96 (wrap64 (x97+1)) ((x11.set (x97:Int).toNat (shr .u64 (rd x11 x97) x9)).set (x97:Int).toNat (Go.bits .or .u64 (rd (x11.set (x97:Int).toNat (shr .u64 (rd x11 x97) x9)) x97) (shl .u64 (rd (x11.set (x97:Int).toNat (shr .u64 (rd x11 x97) x9)) (wrap64 (x97+1))) (wrap64 (64-x9))))) x13)else(none))else(none))else(none))else(none))else(none))else(none))else(none))else(gl2 x9 x12 x96 (wrap64 (x97+1)) (x11.set (x97:Int).toNat (shr .u64 (rd x11 x97) x9)) x13))else(gl2 x9 x12 x96 (wrap64 (x97+1)) (x11.set (x97:Int).toNat (shr .u64 (rd x11 x97) x9)) x13))else(none))else(none))else(none))else(none))else(none))else((c234 x13).bind fun r1=>(if(0:Int)≤0 then(if 0≤x12 then(if x12≤(x11.length:Int)then(if(x11.length:Int)≤(x11.length:Int)then((c234 (slice_ x11 0 x12)).bind fun r2=>(some (r1.2.take (r1.1:Int).toNat,slice_ (x11.take ((0:Int).toNat)++r2.2++x11.drop ((x12:Int).toNat)) 0 (0+r2.1))))else(none))else(none))else(none))else(none)))
theorem e233l2 (s0:SbT ask233.bl) (s:k233l2.T):evPos E0 (orcOf (fes233 c234 c259 c260 c261 c262 c263)) 137 an233 (loOf (les233 gl0 gl1 gl2)) (rk233 s0) (p233.getD 2 ⟨0,[], .skip⟩) (k233l2.mk' s)=B233l2 gl2 c234 s.1.1 s.1.2.1 s.1.2.2.1 s.1.2.2.2.1 s.2.1 s.2.2.1:=by kernel_rfl
noncomputable def B233 (x0:(List Int)) (x1:(List Int)):Option R233:=(c259 x0 x1).bind fun r1=>(if r1<0 then(some (([]:List Int),x0))else(if(x1.length:Int)=1 then(if 0≤(x0.length:Int)then(if(x0.length:Int)≤(x0.length:Int)then(if((x0.length:Int):Int).toNat≤35184372088832 then(gl0 x0 x1 0 (wrap64 ((x0.length:Int)-1)) (List.replicate ((x0.length:Int):Int).toNat (0:Int)))else(none))else(none))else(none))else(if 0≤wrap64 ((x1.length:Int)-1)then(if wrap64 ((x1.length:Int)-1)<(x1.length:Int)then((c261 (rd x1 (wrap64 ((x1.length:Int)-1)))).bind fun r2=>((c262 x1 r2).bind fun r3=>((c234 r3).bind fun r4=>((c262 x0 r2).bind fun r5=>(if 0≤wrap64 ((wrap64 ((x0.length:Int)-((r4.2.take (r4.1:Int).toNat).length:Int)))+1)then(if wrap64 ((wrap64 ((x0.length:Int)-((r4.2.take (r4.1:Int).toNat).length:Int)))+1)≤wrap64 ((wrap64 ((x0.length:Int)-((r4.2.take (r4.1:Int).toNat).length:Int)))+1)then(if(wrap64 ((wrap64 ((x0.length:Int)-((r4.2.take (r4.1:Int).toNat).length:Int)))+1):Int).toNat≤35184372088832 then(gl1 r2 (r4.2.take (r4.1:Int).toNat) ((r4.2.take (r4.1:Int).toNat).length:Int) (wrap64 ((x0.length:Int)-((r4.2.take (r4.1:Int).toNat).length:Int))) r5 (List.replicate (wrap64 ((wrap64 ((x0.length:Int)-((r4.2.take (r4.1:Int).toNat).length:Int)))+1):Int).toNat (0:Int)))else(none))else(none))else(none))))))else(none))else(none))))
theorem e233 (s:ask233.T):evFn E0 (orcOf (fes233 c234 c259 c260 c261 c262 c263)) an233 (loOf (les233 gl0 gl1 gl2)) 137 cd233 Tryz.f233.results.toList rm233 (ask233.mk' s) (decW rsk233 dec233)=B233 gl0 gl1 c234 c259 c261 c262 s.1.1 s.1.2.1:=by kernel_rfl
end
noncomputable def an189:Ann:=⟨[],[],[]⟩
noncomputable def cd189:Code:=(Tryz.f189.body).getD .skip
noncomputable def rm189:List RM:=[.d .st, .d .st]
noncomputable def les189:List (LoE R189):=[]
noncomputable def fes189 (c192:(List Int)→Option R192) (c220:ByteArray→Option R220) (c233:(List Int)→(List Int)→Option R233):List FE:=[(fe192 c192),(fe220 c220),(fe233 c233)]
section
variable (c192:(List Int)→Option R192) (c220:ByteArray→Option R220) (c233:(List Int)→(List Int)→Option R233)
noncomputable def B189 (x0:ByteArray) (x1:ByteArray):Option R189:=(c220 x0).bind fun r1=>((c220 x1).bind fun r2=>((c233 r1 r2).bind fun r3=>((c192 r3.1).bind fun r4=>((c192 r3.2).bind fun r5=>(some (r4,r5))))))
theorem e189 (s:ask189.T):evFn E0 (orcOf (fes189 c192 c220 c233)) an189 (loOf (les189)) 20 cd189 Tryz.f189.results.toList rm189 (ask189.mk' s) (decW rsk189 dec189)=B189 c192 c220 c233 s.1.1 s.1.2.1:=by kernel_rfl
end
noncomputable def an224:Ann:=⟨[(2,[(5, .val (.li (.it .u64))),(6, .val (.li (.it .u64)))])],[],[]⟩
noncomputable def cd224:Code:=(Tryz.f224.body).getD .skip
noncomputable def p224:List Pos:=posns an224 [] cd224
noncomputable def rm224:List RM:=[.d .st]
noncomputable def rk224 (s0:SbT ask224.bl):KX R224:=retK E0 Tryz.f224.results.toList rm224 (mkB ask224.bl s0) (decW rsk224 dec224)
noncomputable def k224l0:Sk:=⟨[(5, .d (.li (.it .u64))),(6, .d (.li (.it .u64)))],[]⟩
noncomputable def les224 (gl0:(List Int)→(List Int)→Option R224):List (LoE R224):=[⟨2,k224l0,fun s=>gl0 s.1.1 s.1.2.1⟩]
noncomputable def fes224 (c192:(List Int)→Option R192) (c220:ByteArray→Option R220) (c233:(List Int)→(List Int)→Option R233):List FE:=[(fe192 c192),(fe220 c220),(fe233 c233)]
section
variable (gl0:(List Int)→(List Int)→Option R224) (c192:(List Int)→Option R192) (c220:ByteArray→Option R220) (c233:(List Int)→(List Int)→Option R233)
noncomputable def B224l0 (x5:(List Int)) (x6:(List Int)):Option R224:=if(x6.length:Int)>0 then((c233 x5 x6).bind fun r1=>(gl0 x6 r1.2))else((c192 x5).bind fun r2=>(some r2))
theorem e224l0 (s0:SbT ask224.bl) (s:k224l0.T):evPos E0 (orcOf (fes224 c192 c220 c233)) 26 an224 (loOf (les224 gl0)) (rk224 s0) (p224.getD 0 ⟨0,[], .skip⟩) (k224l0.mk' s)=B224l0 gl0 c192 c233 s.1.1 s.1.2.1:=by kernel_rfl
noncomputable def B224 (x0:ByteArray) (x1:ByteArray):Option R224:=(c220 x0).bind fun r1=>((c220 x1).bind fun r2=>(gl0 r1 r2))
theorem e224 (s:ask224.T):evFn E0 (orcOf (fes224 c192 c220 c233)) an224 (loOf (les224 gl0)) 26 cd224 Tryz.f224.results.toList rm224 (ask224.mk' s) (decW rsk224 dec224)=B224 gl0 c220 s.1.1 s.1.2.1:=by kernel_rfl
end
noncomputable def an160:Ann:=⟨[],[],[]⟩
noncomputable def cd160:Code:=(Tryz.f160.body).getD .skip
noncomputable def rm160:List RM:=[.d (.ag (.pr (.ag (.pr .bo .st)) .st))]
noncomputable def les160:List (LoE R160):=[]
noncomputable def fes160 (c143:Bool→ByteArray→Option R143) (c189:ByteArray→ByteArray→Option R189) (c224:ByteArray→ByteArray→Option R224):List FE:=[(fe143 c143),(fe189 c189),(fe224 c224)]
section
variable (c143:Bool→ByteArray→Option R143) (c189:ByteArray→ByteArray→Option R189) (c224:ByteArray→ByteArray→Option R224)
noncomputable def B160 (x0:TI) (x1:TI):Option R160:=(c224 x0.2 x1.2).bind fun r1=>(cnd ((!(eqS r1 (⟨#[1]⟩:ByteArray)))) ((c189 x0.2 r1).bind fun r2=>((c189 x1.2 r1).bind fun r3=>((c143 (!(x0.1==x1.1)) r2.1).bind fun r4=>(some ((r4.1,r4.2),r3.1))))) ((c143 (!(x0.1==x1.1)) x0.2).bind fun r5=>(some ((r5.1,r5.2),x1.2))))
theorem e160 (s:ask160.T):evFn E0 (orcOf (fes160 c143 c189 c224)) an160 (loOf (les160)) 40 cd160 Tryz.f160.results.toList rm160 (ask160.mk' s) (decW rsk160 dec160)=B160 c143 c189 c224 s.1.1 s.1.2.1:=by kernel_rfl
end
noncomputable def an74:Ann:=⟨[],[],[]⟩
noncomputable def cd74:Code:=(Tryz.f74.body).getD .skip
noncomputable def rm74:List RM:=[.d (.ag (.pr (.ag (.pr .bo .st)) .st))]
noncomputable def les74:List (LoE R74):=[]
noncomputable def fes74 (c141:TI→TI→Option R141) (c143:Bool→ByteArray→Option R143) (c144:ByteArray→ByteArray→Option R144) (c159:TI→Option R159) (c160:TI→TI→Option R160):List FE:=[(fe141 c141),(fe143 c143),(fe144 c144),(fe159 c159),(fe160 c160)]
section
variable (c141:TI→TI→Option R141) (c143:Bool→ByteArray→Option R143) (c144:ByteArray→ByteArray→Option R144) (c159:TI→Option R159) (c160:TI→TI→Option R160)
noncomputable def B74 (x0:TQ) (x1:TQ):Option R74:=cnd ((eqS x0.2 x1.2)) (cnd ((eqS x0.2 (⟨#[1]⟩:ByteArray))) ((c141 x0.1 x1.1).bind fun r1=>((c159 (r1.1,r1.2)).bind fun r2=>(some (r2.1,r2.2)))) ((c141 x0.1 x1.1).bind fun r3=>((c160 (r3.1,r3.2) (false,x0.2)).bind fun r4=>(some (r4.1,r4.2))))) ((c144 x0.1.2 x1.2).bind fun r5=>((c143 x0.1.1 r5).bind fun r6=>((c144 x1.1.2 x0.2).bind fun r7=>((c143 x1.1.1 r7).bind fun r8=>((c141 (r6.1,r6.2) (r8.1,r8.2)).bind fun r9=>((c144 x0.2 x1.2).bind fun r10=>((c160 (r9.1,r9.2) (false,r10)).bind fun r11=>(some (r11.1,r11.2)))))))))
theorem e74 (s:ask74.T):evFn E0 (orcOf (fes74 c141 c143 c144 c159 c160)) an74 (loOf (les74)) 58 cd74 Tryz.f74.results.toList rm74 (ask74.mk' s) (decW rsk74 dec74)=B74 c141 c143 c144 c159 c160 s.1.1 s.1.2.1:=by kernel_rfl
end
noncomputable def an142:Ann:=⟨[],[],[]⟩
noncomputable def cd142:Code:=(Tryz.f142.body).getD .skip
noncomputable def rm142:List RM:=[.d (.ag (.pr .bo .st))]
noncomputable def les142:List (LoE R142):=[]
noncomputable def fes142 (c143:Bool→ByteArray→Option R143):List FE:=[(fe143 c143)]
section
variable (c143:Bool→ByteArray→Option R143)
noncomputable def B142 (x0:TI):Option R142:=(c143 (!x0.1) x0.2).bind fun r1=>(some (r1.1,r1.2))
theorem e142 (s:ask142.T):evFn E0 (orcOf (fes142 c143)) an142 (loOf (les142)) 9 cd142 Tryz.f142.results.toList rm142 (ask142.mk' s) (decW rsk142 dec142)=B142 c143 s.1.1:=by kernel_rfl
end
noncomputable def an81:Ann:=⟨[],[],[]⟩
noncomputable def cd81:Code:=(Tryz.f81.body).getD .skip
noncomputable def rm81:List RM:=[.d (.ag (.pr (.ag (.pr .bo .st)) .st))]
noncomputable def les81:List (LoE R81):=[]
noncomputable def fes81 (c142:TI→Option R142):List FE:=[(fe142 c142)]
section
variable (c142:TI→Option R142)
noncomputable def B81 (x0:TQ):Option R81:=(c142 x0.1).bind fun r1=>(some ((r1.1,r1.2),x0.2))
theorem e81 (s:ask81.T):evFn E0 (orcOf (fes81 c142)) an81 (loOf (les81)) 9 cd81 Tryz.f81.results.toList rm81 (ask81.mk' s) (decW rsk81 dec81)=B81 c142 s.1.1:=by kernel_rfl
end
noncomputable def an75:Ann:=⟨[],[],[]⟩
noncomputable def cd75:Code:=(Tryz.f75.body).getD .skip
noncomputable def rm75:List RM:=[.d (.ag (.pr (.ag (.pr .bo .st)) .st))]
noncomputable def les75:List (LoE R75):=[]
noncomputable def fes75 (c74:TQ→TQ→Option R74) (c81:TQ→Option R81):List FE:=[(fe74 c74),(fe81 c81)]
section
variable (c74:TQ→TQ→Option R74) (c81:TQ→Option R81)
noncomputable def B75 (x0:TQ) (x1:TQ):Option R75:=(c81 x1).bind fun r1=>((c74 x0 (r1.1,r1.2)).bind fun r2=>(some (r2.1,r2.2)))
theorem e75 (s:ask75.T):evFn E0 (orcOf (fes75 c74 c81)) an75 (loOf (les75)) 9 cd75 Tryz.f75.results.toList rm75 (ask75.mk' s) (decW rsk75 dec75)=B75 c74 c81 s.1.1 s.1.2.1:=by kernel_rfl
end
noncomputable def an56:Ann:=⟨[],[],[]⟩
noncomputable def cd56:Code:=(Tryz.f56.body).getD .skip
noncomputable def rm56:List RM:=[.d (.ag (.pr .bo .st))]
noncomputable def les56:List (LoE R56):=[]
noncomputable def fes56 (c143:Bool→ByteArray→Option R143) (c144:ByteArray→ByteArray→Option R144):List FE:=[(fe143 c143),(fe144 c144)]
section
variable (c143:Bool→ByteArray→Option R143) (c144:ByteArray→ByteArray→Option R144)
noncomputable def B56 (x0:TI) (x1:TI):Option R56:=(c144 x0.2 x1.2).bind fun r1=>((c143 (!(x0.1==x1.1)) r1).bind fun r2=>(some (r2.1,r2.2)))
theorem e56 (s:ask56.T):evFn E0 (orcOf (fes56 c143 c144)) an56 (loOf (les56)) 16 cd56 Tryz.f56.results.toList rm56 (ask56.mk' s) (decW rsk56 dec56)=B56 c143 c144 s.1.1 s.1.2.1:=by kernel_rfl
end
noncomputable def an156:Ann:=⟨[],[],[]⟩
noncomputable def cd156:Code:=(Tryz.f156.body).getD .skip
noncomputable def rm156:List RM:=[.d (.ag (.pr (.ag (.pr .bo .st)) .st))]
noncomputable def les156:List (LoE R156):=[]
noncomputable def fes156 (c56:TI→TI→Option R56) (c144:ByteArray→ByteArray→Option R144) (c159:TI→Option R159) (c160:TI→TI→Option R160):List FE:=[(fe56 c56),(fe144 c144),(fe159 c159),(fe160 c160)]
section
variable (c56:TI→TI→Option R56) (c144:ByteArray→ByteArray→Option R144) (c159:TI→Option R159) (c160:TI→TI→Option R160)
noncomputable def B156 (x0:TQ) (x1:TQ):Option R156:=cnd ((eqS x0.2 (⟨#[1]⟩:ByteArray))) (cnd ((eqS x1.2 (⟨#[1]⟩:ByteArray))) ((c56 x0.1 x1.1).bind fun r1=>((c159 (r1.1,r1.2)).bind fun r2=>(some (r2.1,r2.2)))) ((c56 x0.1 x1.1).bind fun r3=>((c144 x0.2 x1.2).bind fun r4=>((c160 (r3.1,r3.2) (false,r4)).bind fun r5=>(some (r5.1,r5.2)))))) ((c56 x0.1 x1.1).bind fun r6=>((c144 x0.2 x1.2).bind fun r7=>((c160 (r6.1,r6.2) (false,r7)).bind fun r8=>(some (r8.1,r8.2)))))
theorem e156 (s:ask156.T):evFn E0 (orcOf (fes156 c56 c144 c159 c160)) an156 (loOf (les156)) 31 cd156 Tryz.f156.results.toList rm156 (ask156.mk' s) (decW rsk156 dec156)=B156 c56 c144 c159 c160 s.1.1 s.1.2.1:=by kernel_rfl
end
noncomputable def an158:Ann:=⟨[],[],[]⟩
noncomputable def cd158:Code:=(Tryz.f158.body).getD .skip
noncomputable def rm158:List RM:=[.d .bo]
noncomputable def les158:List (LoE R158):=[]
noncomputable def fes158:List FE:=[]
noncomputable def B158 (x0:TQ):Option R158:=if(x0.1.2.size:Int)>1024 then(some true)else(some (decide ((x0.2.size:Int)>1024)))
theorem e158 (s:ask158.T):evFn E0 (orcOf (fes158)) an158 (loOf (les158)) 14 cd158 Tryz.f158.results.toList rm158 (ask158.mk' s) (decW rsk158 dec158)=B158 s.1.1:=by kernel_rfl
noncomputable def an165:Ann:=⟨[],[],[]⟩
noncomputable def cd165:Code:=(Tryz.f165.body).getD .skip
noncomputable def rm165:List RM:=[.d (.ag (.pr (.ag (.pr .bo .st)) .st))]
noncomputable def les165:List (LoE R165):=[]
noncomputable def fes165:List FE:=[]
noncomputable def B165 (x0:TQ):Option R165:=some ((x0.1.1,x0.2),x0.1.2)
theorem e165 (s:ask165.T):evFn E0 (orcOf (fes165)) an165 (loOf (les165)) 13 cd165 Tryz.f165.results.toList rm165 (ask165.mk' s) (decW rsk165 dec165)=B165 s.1.1:=by kernel_rfl
noncomputable def an3:Ann:=⟨[],[],[]⟩
noncomputable def cd3:Code:=(Tryz.f3.body).getD .skip
noncomputable def p3:List Pos:=posns an3 [] cd3
noncomputable def rm3:List RM:=[.d .bo]
noncomputable def les3:List (LoE R3):=[]
noncomputable def fes3 (c7:Int→Option R7) (c8:Option R8) (c9:Int→Option R9) (c10:TI→Option R10) (c11:Int→Int→Option R11) (c12:TQ→TQ→Option R12) (c13:TI→Option R13) (c14:Int→Option R14) (c15:TQ→TQ→TQ→Option R15) (c16:TQ→TQ→Option R16) (c17:TQ→TQ→Option R17) (c18:TQ→TQ→TQ→Option R18):List FE:=[(fe7 c7),(fe8 c8),(fe9 c9),(fe10 c10),(fe11 c11),(fe12 c12),(fe13 c13),(fe14 c14),(fe15 c15),(fe16 c16),(fe17 c17),(fe18 c18)]
section
variable (c7:Int→Option R7) (c8:Option R8) (c9:Int→Option R9) (c10:TI→Option R10) (c11:Int→Int→Option R11) (c12:TQ→TQ→Option R12) (c13:TI→Option R13) (c14:Int→Option R14) (c15:TQ→TQ→TQ→Option R15) (c16:TQ→TQ→Option R16) (c17:TQ→TQ→Option R17) (c18:TQ→TQ→TQ→Option R18)
noncomputable def B3 (x0:Int):Option R3:=if wrap64 (x0)>200 then((c8).bind fun r1=>(some r1))else((c7 (wrap64 (x0))).bind fun r2=>(cnd ((!r2)) ((c8).bind fun r3=>(some r3)) ((c9 (wrap64 (x0))).bind fun r4=>(if r4.2.2.2≠0 then(some false)else((c10 r4.1).bind fun r5=>(cnd ((!r5)) (some false) ((c10 r4.2.1).bind fun r6=>(cnd ((!r6)) (some false) ((c11 1 2).bind fun r7=>((c13 r4.1).bind fun r8=>((c12 (r8.1,r8.2) (r7.1,r7.2)).bind fun r9=>((c13 r4.2.1).bind fun r10=>((c12 (r10.1,r10.2) (r7.1,r7.2)).bind fun r11=>((c14 (wrap64 (x0))).bind fun r12=>(if r4.2.2.1=1 then((c15 (r9.1,r9.2) (r11.1,r11.2) (r12.1,r12.2)).bind fun r13=>((c14 1).bind fun r14=>(if r13.2.2.2.2≠0 then(some false)else((c16 (r9.1,r9.2) (r14.1,r14.2)).bind fun r15=>((c12 (r15.1,r15.2) (r7.1,r7.2)).bind fun r16=>(cnd ((!(((r13.1.1==r16.1.1)&&(eqS r13.1.2 r16.1.2))&&(eqS r13.2.1 r16.2)))) (some false) ((c17 (r9.1,r9.2) (r14.1,r14.2)).bind fun r17=>((c12 (r17.1,r17.2) (r7.1,r7.2)).bind fun r18=>(cnd ((!(((r13.2.2.1.1==r18.1.1)&&(eqS r13.2.2.1.2 r18.1.2))&&(eqS r13.2.2.2.1 r18.2)))) (some false) ((c12 (r9.1,r9.2) (r9.1,r9.2)).bind fun r19=>((c12 (r11.1,r11.2) (r11.1,r11.2)).bind fun r20=>((c12 (r20.1,r20.2) (r12.1,r12.2)).bind fun r21=>((c16 (r19.1,r19.2) (r21.1,r21.2)).bind fun r22=>((c14 2).bind fun r23=>((c12 (r9.1,r9.2) (r11.1,r11.2)).bind fun r24=>((c12 (r23.1,r23.2) (r24.1,r24.2)).bind fun r25=>((c18 (r22.1,r22.2) (r25.1,r25.2) (r12.1,r12.2)).bind fun r26=>(if r26.2.2.2.2=0 then(cnd ((((r26.1.1==r9.1.1)&&(eqS r26.1.2 r9.1.2))&&(eqS r26.2.1 r9.2))) (cnd ((((r26.2.2.1.1==r11.1.1)&&(eqS r26.2.2.1.2 r11.1.2))&&(eqS r26.2.2.2.1 r11.2))) ((c8).bind fun r27=>(some r27)) (some false)) (some false))else(some false)))))))))))))))))))else((c12 (r9.1,r9.2) (r9.1,r9.2)).bind fun r28=>((c12 (r11.1,r11.2) (r11.1,r11.2)).bind fun r29=>((c12 (r29.1,r29.2) (r12.1,r12.2)).bind fun r30=>((c16 (r28.1,r28.2) (r30.1,r30.2)).bind fun r31=>((c14 2).bind fun r32=>((c12 (r9.1,r9.2) (r11.1,r11.2)).bind fun r33=>((c12 (r32.1,r32.2) (r33.1,r33.2)).bind fun r34=>((c18 (r31.1,r31.2) (r34.1,r34.2) (r12.1,r12.2)).bind fun r35=>(if r35.2.2.2.2=0 then(cnd ((((r35.1.1==r9.1.1)&&(eqS r35.1.2 r9.1.2))&&(eqS r35.2.1 r9.2))) (cnd ((((r35.2.2.1.1==r11.1.1)&&(eqS r35.2.2.1.2 r11.1.2))&&(eqS r35.2.2.2.1 r11.2))) ((c8).bind fun r36=>(some r36)) (some false)) (some false))else(some false)))))))))))))))))))))))))
theorem e3 (s:ask3.T):evFn E0 (orcOf (fes3 c7 c8 c9 c10 c11 c12 c13 c14 c15 c16 c17 c18)) an3 (loOf (les3)) 130 cd3 Tryz.f3.results.toList rm3 (ask3.mk' s) (decW rsk3 dec3)=B3 c7 c8 c9 c10 c11 c12 c13 c14 c15 c16 c17 c18 s.1.1:=by kernel_rfl
end
noncomputable def an214:Ann:=⟨[],[],[]⟩
noncomputable def cd214:Code:=(Tryz.f214.body).getD .skip
noncomputable def rm214:List RM:=[.d .bo]
noncomputable def les214:List (LoE R214):=[]
noncomputable def fes214:List FE:=[]
noncomputable def B214 (x0:Int):Option R214:=if x0<1 then(some true)else(some (decide (x0>2147483647)))
theorem e214 (s:ask214.T):evFn E0 (orcOf (fes214)) an214 (loOf (les214)) 9 cd214 Tryz.f214.results.toList rm214 (ask214.mk' s) (decW rsk214 dec214)=B214 s.1.1:=by kernel_rfl
noncomputable def an239bad:Ann:=⟨[(2,[(0, .any),(1, .any),(7, .any),(8, .any)])],[],[]⟩
noncomputable def cd239bad:Code:=(Tryz.f239.body).getD .skip
noncomputable def p239bad:List Pos:=posns an239bad [] cd239bad
noncomputable def rm239bad:List RM:=[.d (.it .i64)]
noncomputable def rk239bad (s0:SbT ask239bad.bl):KX R239bad:=retK E0 Tryz.f239.results.toList rm239bad (mkB ask239bad.bl s0) (decW rsk239bad dec239bad)
noncomputable def k239badl0:Sk:=⟨[(0, .d (.li (.it .i64))),(1, .f (.cl 214 [])),(7, .d (.it .i64)),(8, .d (.it .i64))],[]⟩
noncomputable def les239bad (gl0:(List Int)→Int→Int→Option R239bad):List (LoE R239bad):=[⟨2,k239badl0,fun s=>gl0 s.1.1 s.1.2.1 s.1.2.2.1⟩]
noncomputable def fes239bad (c214:Int→Option R214):List FE:=[(fe214 c214)]
section
variable (gl0:(List Int)→Int→Int→Option R239bad) (c214:Int→Option R214)
noncomputable def B239badl0 (x0:(List Int)) (x7:Int) (x8:Int):Option R239bad:=if x8<x7 then(if 0≤x8 then(if x8<(x0.length:Int)then((c214 (rd x0 x8)).bind fun r1=>(cnd (r1) (some x8) (gl0 x0 x7 (wrap64 (x8+1)))))else(none))else(none))else(some (-1))
theorem e239badl0 (s0:SbT ask239bad.bl) (s:k239badl0.T):evPos E0 (orcOf (fes239bad c214)) 19 an239bad (loOf (les239bad gl0)) (rk239bad s0) (p239bad.getD 0 ⟨0,[], .skip⟩) (k239badl0.mk' s)=B239badl0 gl0 c214 s.1.1 s.1.2.1 s.1.2.2.1:=by kernel_rfl
noncomputable def B239bad (x0:(List Int)):Option R239bad:=gl0 x0 (x0.length:Int) 0
theorem e239bad (s:ask239bad.T):evFn E0 (orcOf (fes239bad c214)) an239bad (loOf (les239bad gl0)) 19 cd239bad Tryz.f239.results.toList rm239bad (ask239bad.mk' s) (decW rsk239bad dec239bad)=B239bad gl0 s.1.1:=by kernel_rfl
end
noncomputable def an198bad:Ann:=⟨[],[],[]⟩
noncomputable def cd198bad:Code:=(Tryz.f198.body).getD .skip
noncomputable def rm198bad:List RM:=[.d .bo]
noncomputable def les198bad:List (LoE R198bad):=[]
noncomputable def fes198bad (c239bad:(List Int)→Option R239bad):List FE:=[(fe239bad c239bad)]
section
variable (c239bad:(List Int)→Option R239bad)
noncomputable def B198bad (x0:(List Int)):Option R198bad:=(c239bad x0).bind fun r1=>(some (decide (r1≥0)))
theorem e198bad (s:ask198bad.T):evFn E0 (orcOf (fes198bad c239bad)) an198bad (loOf (les198bad)) 9 cd198bad Tryz.f198.results.toList rm198bad (ask198bad.mk' s) (decW rsk198bad dec198bad)=B198bad c239bad s.1.1:=by kernel_rfl
end
noncomputable def an133:Ann:=⟨[],[],[]⟩
noncomputable def cd133:Code:=(Tryz.f133.body).getD .skip
noncomputable def rm133:List RM:=[.d .bo]
noncomputable def les133:List (LoE R133):=[]
noncomputable def fes133 (c198bad:(List Int)→Option R198bad):List FE:=[(fe198bad c198bad)]
section
variable (c198bad:(List Int)→Option R198bad)
noncomputable def B133 (x0:(List Int)):Option R133:=(c198bad x0).bind fun r1=>(some r1)
theorem e133 (s:ask133.T):evFn E0 (orcOf (fes133 c198bad)) an133 (loOf (les133)) 5 cd133 Tryz.f133.results.toList rm133 (ask133.mk' s) (decW rsk133 dec133)=B133 c198bad s.1.1:=by kernel_rfl
end
noncomputable def an249:Ann:=⟨[(1,[(0, .any),(1, .any),(2, .any),(4, .any)])],[],[]⟩
noncomputable def cd249:Code:=(Tryz.f249.body).getD .skip
noncomputable def p249:List Pos:=posns an249 [] cd249
noncomputable def rm249:List RM:=[]
noncomputable def rk249 (s0:SbT ask249.bl):KX R249:=retK E0 Tryz.f249.results.toList rm249 (mkB ask249.bl s0) (decW rsk249 dec249)
noncomputable def k249l0:Sk:=⟨[(0, .d (.it .i64)),(1, .f (.a (.ptr 2500 0 []))),(2, .f (.a (.ptr 2501 0 []))),(4, .d (.it .i64))],[(2500, .cell (.it .i64) false),(2501, .cell (.nz (.ag (.pr (.it .i64) (.it .i64)))) false)]⟩
noncomputable def les249 (gl0:Int→Int→Int→(List (Int×Int))→Option R249):List (LoE R249):=[⟨1,k249l0,fun s=>gl0 s.1.1 s.1.2.1 s.2.1 s.2.2.1⟩]
noncomputable def fes249:List FE:=[]
section
variable (gl0:Int→Int→Int→(List (Int×Int))→Option R249)
noncomputable def B249l0 (x0:Int) (x4:Int) (y500:Int) (y501:(List (Int×Int))):Option R249:=if x0=0 then(none)else(if Int.tmod y500 x0=0 then(if x0=0 then(none)else(gl0 x0 (wrap64 (x4+1)) (wrap64 (Int.tdiv y500 x0)) y501))else(if x4>0 then(if(y501.length:Int)=0 then(if(16:Int)≤140737488355328 then(some (y500,([(x0,x4)]:List (Int×Int))))else(none))else(none))else(some (y500,y501))))
theorem e249l0 (s0:SbT ask249.bl) (s:k249l0.T):evPos E0 (orcOf (fes249)) 22 an249 (loOf (les249 gl0)) (rk249 s0) (p249.getD 0 ⟨0,[], .skip⟩) (k249l0.mk' s)=B249l0 gl0 s.1.1 s.1.2.1 s.2.1 s.2.2.1:=by kernel_rfl
noncomputable def B249 (x0:Int) (y500:Int) (y501:(List (Int×Int))):Option R249:=gl0 x0 0 y500 y501
theorem e249 (s:ask249.T):evFn E0 (orcOf (fes249)) an249 (loOf (les249 gl0)) 22 cd249 Tryz.f249.results.toList rm249 (ask249.mk' s) (decW rsk249 dec249)=B249 gl0 s.1.1 s.2.1 s.2.2.1:=by kernel_rfl
end
noncomputable def an215:Ann:=⟨[(5,[(1, .any),(3, .any),(4, .any),(5, .any)])],[],[]⟩
noncomputable def cd215:Code:=(Tryz.f215.body).getD .skip
noncomputable def p215:List Pos:=posns an215 [] cd215
noncomputable def rm215:List RM:=[.d (.nz (.ag (.pr (.it .i64) (.it .i64))))]
noncomputable def rk215 (s0:SbT ask215.bl):KX R215:=retK E0 Tryz.f215.results.toList rm215 (mkB ask215.bl s0) (decW rsk215 dec215)
noncomputable def k215l0:Sk:=⟨[(1, .f (.a (.ptr 1 0 []))),(3, .f (.a (.ptr 3 0 []))),(4, .f (.cl 249 [(.ptr 1 0 []),(.ptr 3 0 [])])),(5, .d (.it .i64))],[(1, .cell (.it .i64) true),(3, .cell (.nz (.ag (.pr (.it .i64) (.it .i64)))) true)]⟩
noncomputable def les215 (gl0:Int→Int→(List (Int×Int))→Option R215):List (LoE R215):=[⟨5,k215l0,fun s=>gl0 s.1.1 s.2.1 s.2.2.1⟩]
noncomputable def fes215 (c249:Int→Int→(List (Int×Int))→Option R249):List FE:=[(fe249 c249)]
section
variable (gl0:Int→Int→(List (Int×Int))→Option R215) (c249:Int→Int→(List (Int×Int))→Option R249)
noncomputable def B215l0 (x5:Int) (x1:Int) (x3:(List (Int×Int))):Option R215:=if wrap64 (x5*x5)≤x1 then((c249 x5 x1 x3).bind fun r1=>(gl0 (wrap64 (x5+2)) r1.1 r1.2))else(if x1>1 then((c249 x1 x1 x3).bind fun r2=>(some r2.2))else(some x3))
theorem e215l0 (s0:SbT ask215.bl) (s:k215l0.T):evPos E0 (orcOf (fes215 c249)) 25 an215 (loOf (les215 gl0)) (rk215 s0) (p215.getD 0 ⟨0,[], .skip⟩) (k215l0.mk' s)=B215l0 gl0 c249 s.1.1 s.2.1 s.2.2.1:=by kernel_rfl
noncomputable def B215 (x0:Int):Option R215:=(c249 2 x0 ([]:List (Int×Int))).bind fun r1=>(gl0 3 r1.1 r1.2)
theorem e215 (s:ask215.T):evFn E0 (orcOf (fes215 c249)) an215 (loOf (les215 gl0)) 25 cd215 Tryz.f215.results.toList rm215 (ask215.mk' s) (decW rsk215 dec215)=B215 gl0 c249 s.1.1:=by kernel_rfl
end
noncomputable def an134:Ann:=⟨[],[],[]⟩
noncomputable def cd134:Code:=(Tryz.f134.body).getD .skip
noncomputable def rm134:List RM:=[.d .bo]
noncomputable def les134:List (LoE R134):=[]
noncomputable def fes134 (c215:Int→Option R215):List FE:=[(fe215 c215)]
section
variable (c215:Int→Option R215)
noncomputable def B134 (x0:Int):Option R134:=(c215 x0).bind fun r1=>(if(r1.length:Int)=1 then(if(0:Int)≤0 then(if 0<(r1.length:Int)then(some (decide ((rdOf (0,0) r1 0).2=1)))else(none))else(none))else(some false))
theorem e134 (s:ask134.T):evFn E0 (orcOf (fes134 c215)) an134 (loOf (les134)) 16 cd134 Tryz.f134.results.toList rm134 (ask134.mk' s) (decW rsk134 dec134)=B134 c215 s.1.1:=by kernel_rfl
end
noncomputable def an186:Ann:=⟨[],[],[]⟩
noncomputable def cd186:Code:=(Tryz.f186.body).getD .skip
noncomputable def rm186:List RM:=[.d .bo, .d (.it .i64)]
noncomputable def les186:List (LoE R186):=[]
noncomputable def fes186 (c133:(List Int)→Option R133) (c134:Int→Option R134):List FE:=[(fe133 c133),(fe134 c134)]
section
variable (c133:(List Int)→Option R133) (c134:Int→Option R134)
noncomputable def B186 (x0:Int):Option R186:=(c133 ([x0]:List Int)).bind fun r1=>(cnd (r1) (some (false,3)) ((c134 x0).bind fun r2=>(some (r2,0))))
theorem e186 (s:ask186.T):evFn E0 (orcOf (fes186 c133 c134)) an186 (loOf (les186)) 9 cd186 Tryz.f186.results.toList rm186 (ask186.mk' s) (decW rsk186 dec186)=B186 c133 c134 s.1.1:=by kernel_rfl
end
noncomputable def an100:Ann:=⟨[(2,[(7, .any),(8, .any),(9, .any)])],[],[]⟩
noncomputable def cd100:Code:=(Tryz.f100.body).getD .skip
noncomputable def p100:List Pos:=posns an100 [] cd100
noncomputable def rm100:List RM:=[.d (.it .i64)]
noncomputable def rk100 (s0:SbT ask100.bl):KX R100:=retK E0 Tryz.f100.results.toList rm100 (mkB ask100.bl s0) (decW rsk100 dec100)
noncomputable def k100l0:Sk:=⟨[(7, .d (.li (.it .i64))),(8, .d (.it .i64)),(9, .d (.it .i64))],[]⟩
noncomputable def les100 (gl0:(List Int)→Int→Int→Option R100):List (LoE R100):=[⟨2,k100l0,fun s=>gl0 s.1.1 s.1.2.1 s.1.2.2.1⟩]
noncomputable def fes100 (c186:Int→Option R186):List FE:=[(fe186 c186)]
section
variable (gl0:(List Int)→Int→Int→Option R100) (c186:Int→Option R186)
noncomputable def B100l0 (x7:(List Int)) (x8:Int) (x9:Int):Option R100:=if x9<x8 then(if 0≤x9 then(if x9<(x7.length:Int)then(if rd x7 x9<3 then(some 7)else(if rd x7 x9>65521 then(some 7)else((c186 (rd x7 x9)).bind fun r1=>(if r1.2≠0 then(some 7)else(cnd ((!r1.1)) (some 7) (gl0 x7 x8 (wrap64 (x9+1))))))))else(none))else(none))else(some 0)
theorem e100l0 (s0:SbT ask100.bl) (s:k100l0.T):evPos E0 (orcOf (fes100 c186)) 31 an100 (loOf (les100 gl0)) (rk100 s0) (p100.getD 0 ⟨0,[], .skip⟩) (k100l0.mk' s)=B100l0 gl0 c186 s.1.1 s.1.2.1 s.1.2.2.1:=by kernel_rfl
noncomputable def B100 (x0:(List Int)):Option R100:=gl0 x0 (x0.length:Int) 0
theorem e100 (s:ask100.T):evFn E0 (orcOf (fes100 c186)) an100 (loOf (les100 gl0)) 31 cd100 Tryz.f100.results.toList rm100 (ask100.mk' s) (decW rsk100 dec100)=B100 gl0 s.1.1:=by kernel_rfl
end
noncomputable def an106:Ann:=⟨[],[],[]⟩
noncomputable def cd106:Code:=(Tryz.f106.body).getD .skip
noncomputable def rm106:List RM:=[.d (.ag (.pr .st .fu))]
noncomputable def les106:List (LoE R106):=[]
noncomputable def fes106:List FE:=[]
noncomputable def B106:Option R106:=some ((⟨#[69,117,108,101,114]⟩:ByteArray),191)
theorem e106 (s:ask106.T):evFn E0 (orcOf (fes106)) an106 (loOf (les106)) 2 cd106 Tryz.f106.results.toList rm106 (ask106.mk' s) (decW rsk106 dec106)=B106:=by kernel_rfl
noncomputable def an191:Ann:=⟨[(3,[(0, .any),(1, .any),(5, .any),(6, .any)])],[],[]⟩
noncomputable def cd191:Code:=(Tryz.f191.body).getD .skip
noncomputable def p191:List Pos:=posns an191 [] cd191
noncomputable def rm191:List RM:=[.d (.it .i64)]
noncomputable def rk191 (s0:SbT ask191.bl):KX R191:=retK E0 Tryz.f191.results.toList rm191 (mkB ask191.bl s0) (decW rsk191 dec191)
noncomputable def k191l0:Sk:=⟨[(0, .d (.it .i64)),(1, .d (.it .i64)),(5, .d (.it .i64)),(6, .d (.it .i64))],[]⟩
noncomputable def les191 (gl0:Int→Int→Int→Int→Option R191):List (LoE R191):=[⟨3,k191l0,fun s=>gl0 s.1.1 s.1.2.1 s.1.2.2.1 s.1.2.2.2.1⟩]
noncomputable def fes191:List FE:=[]
section
variable (gl0:Int→Int→Int→Int→Option R191)
noncomputable def B191l0 (x0:Int) (x1:Int) (x5:Int) (x6:Int):Option R191:=if x6>0 then(if Go.bits .and .i64 x6 1=1 then(if x1=0 then(none)else(if x1=0 then(none)else(if(0:Int)≤1 then(gl0 (Int.tmod (wrap64 (x0*x0)) x1) x1 (Int.tmod (wrap64 (x5*x0)) x1) (x6/2))else(none))))else(if x1=0 then(none)else(if(0:Int)≤1 then(gl0 (Int.tmod (wrap64 (x0*x0)) x1) x1 x5 (x6/2))else(none))))else(if x5=1 then(some 1)else(some (-1)))
theorem e191l0 (s0:SbT ask191.bl) (s:k191l0.T):evPos E0 (orcOf (fes191)) 29 an191 (loOf (les191 gl0)) (rk191 s0) (p191.getD 0 ⟨0,[], .skip⟩) (k191l0.mk' s)=B191l0 gl0 s.1.1 s.1.2.1 s.1.2.2.1 s.1.2.2.2.1:=by kernel_rfl
noncomputable def B191 (x0:Int) (x1:Int):Option R191:=if(2:Int)=0 then(none)else(gl0 x0 x1 1 (wrap64 (Int.tdiv (wrap64 (x1-1)) 2)))
theorem e191 (s:ask191.T):evFn E0 (orcOf (fes191)) an191 (loOf (les191 gl0)) 29 cd191 Tryz.f191.results.toList rm191 (ask191.mk' s) (decW rsk191 dec191)=B191 gl0 s.1.1 s.1.2.1:=by kernel_rfl
end
noncomputable def an41:Ann:=⟨[(9,[(0, .any),(5, .any),(6, .any),(27, .any),(28, .any)])],[],[]⟩
noncomputable def cd41:Code:=(Tryz.f41.body).getD .skip
noncomputable def p41:List Pos:=posns an41 [] cd41
noncomputable def rm41:List RM:=[.d (.li (.ag (.pr (.ag (.pr .bo .st)) .st))), .d (.it .i64)]
noncomputable def rk41 (s0:SbT ask41.bl):KX R41:=retK E0 Tryz.f41.results.toList rm41 (mkB ask41.bl s0) (decW rsk41 dec41)
noncomputable def k41l0:Sk:=⟨[(0, .d (.it .i64)),(5, .f (.a (.ref 5))),(6, .d (.it .i64)),(27, .d (.it .i64)),(28, .d (.it .i64))],[(5, .own (.ag (.pr (.ag (.pr .bo .st)) .st)) true)]⟩
noncomputable def les41 (gl0:Int→Int→Int→Int→(List TQ)→Option R41):List (LoE R41):=[⟨9,k41l0,fun s=>gl0 s.1.1 s.1.2.1 s.1.2.2.1 s.1.2.2.2.1 s.2.1⟩]
noncomputable def fes41 (c100:(List Int)→Option R100) (c106:Option R106) (c122:Int→Option R122) (c123:(List TQ)→Option R123) (c191:Int→Int→Option R191):List FE:=[(fe100 c100),(fe106 c106),(fe122 c122),(fe123 c123),(fe191 c191)]
section
variable (gl0:Int→Int→Int→Int→(List TQ)→Option R41) (c100:(List Int)→Option R100) (c106:Option R106) (c122:Int→Option R122) (c123:(List TQ)→Option R123) (c191:Int→Int→Option R191)
noncomputable def B41l0 (x0:Int) (x6:Int) (x27:Int) (x28:Int) (x5:(List TQ)):Option R41:=if x28<x27 then(if x28>0 then((c106).bind fun r1=>(if r1.2=191 then((c191 x28 x0).bind fun r2=>((c122 (wrap64 ((wrap64 (0-x6))+r2))).bind fun r3=>(if 0≤x28 then(if x28<(x5.length:Int)then(gl0 x0 x6 x27 (wrap64 (x28+1)) (x5.set (x28:Int).toNat (r3.1,r3.2)))else(none))else(none))))else(none)))else((c122 (wrap64 (0-x6))).bind fun r4=>(if 0≤x28 then(if x28<(x5.length:Int)then(gl0 x0 x6 x27 (wrap64 (x28+1)) (x5.set (x28:Int).toNat (r4.1,r4.2)))else(none))else(none))))else((c123 x5).bind fun r5=>(some (r5,0)))
theorem e41l0 (s0:SbT ask41.bl) (s:k41l0.T):evPos E0 (orcOf (fes41 c100 c106 c122 c123 c191)) 50 an41 (loOf (les41 gl0)) (rk41 s0) (p41.getD 0 ⟨0,[], .skip⟩) (k41l0.mk' s)=B41l0 gl0 c106 c122 c123 c191 s.1.1 s.1.2.1 s.1.2.2.1 s.1.2.2.2.1 s.2.1:=by kernel_rfl
noncomputable def B41 (x0:Int):Option R41:=(c100 ([x0]:List Int)).bind fun r1=>(if r1≠0 then(some (([]:List TQ),r1))else(if x0>23 then(some (([]:List TQ),4))else(if 0≤wrap64 (x0-1)then(if wrap64 (x0-1)≤wrap64 (x0-1)then(if(wrap64 (x0-1):Int).toNat≤7036874417766 then((c106).bind fun r2=>(if r2.2=191 then((c191 (wrap64 (x0-1)) x0).bind fun r3=>(gl0 x0 r3 ((List.replicate (wrap64 (x0-1):Int).toNat ((false,(⟨#[]⟩:ByteArray)),(⟨#[]⟩:ByteArray))).length:Int) 0 (List.replicate (wrap64 (x0-1):Int).toNat ((false,(⟨#[]⟩:ByteArray)),(⟨#[]⟩:ByteArray)))))else(none)))else(none))else(none))else(none))))
theorem e41 (s:ask41.T):evFn E0 (orcOf (fes41 c100 c106 c122 c123 c191)) an41 (loOf (les41 gl0)) 50 cd41 Tryz.f41.results.toList rm41 (ask41.mk' s) (decW rsk41 dec41)=B41 gl0 c100 c106 c191 s.1.1:=by kernel_rfl
end
noncomputable def an19:Ann:=⟨[],[],[]⟩
noncomputable def cd19:Code:=(Tryz.f19.body).getD .skip
noncomputable def rm19:List RM:=[.d .bo]
noncomputable def les19:List (LoE R19):=[]
noncomputable def fes19 (c40:(List TQ)→(List TQ)→Option R40) (c41:Int→Option R41) (c46:(List Int)→Option R46):List FE:=[(fe40 c40),(fe41 c41),(fe46 c46)]
section
variable (c40:(List TQ)→(List TQ)→Option R40) (c41:Int→Option R41) (c46:(List Int)→Option R46)
noncomputable def B19:Option R19:=(c41 3).bind fun r1=>(if r1.2=0 then((c46 ([1,2]:List Int)).bind fun r2=>((c40 r1.1 r2).bind fun r3=>(some r3)))else(some false))
theorem e19 (s:ask19.T):evFn E0 (orcOf (fes19 c40 c41 c46)) an19 (loOf (les19)) 15 cd19 Tryz.f19.results.toList rm19 (ask19.mk' s) (decW rsk19 dec19)=B19 c40 c41 c46:=by kernel_rfl
end
noncomputable def an82:Ann:=⟨[(2,[(0, .any),(3, .any)])],[],[]⟩
noncomputable def cd82:Code:=(Tryz.f82.body).getD .skip
noncomputable def p82:List Pos:=posns an82 [] cd82
noncomputable def rm82:List RM:=[.d .bo]
noncomputable def rk82 (s0:SbT ask82.bl):KX R82:=retK E0 Tryz.f82.results.toList rm82 (mkB ask82.bl s0) (decW rsk82 dec82)
noncomputable def k82l0:Sk:=⟨[(0, .d (.it .i64)),(3, .d (.it .i64))],[]⟩
noncomputable def les82 (gl0:Int→Int→Option R82):List (LoE R82):=[⟨2,k82l0,fun s=>gl0 s.1.1 s.1.2.1⟩]
noncomputable def fes82:List FE:=[]
section
variable (gl0:Int→Int→Option R82)
noncomputable def B82l0 (x0:Int) (x3:Int):Option R82:=if wrap64 (x3*x3)≤x0 then(if x3=0 then(none)else(if Int.tmod x0 x3=0 then(some false)else(gl0 x0 (wrap64 (x3+1)))))else(some (decide (x0>1)))
theorem e82l0 (s0:SbT ask82.bl) (s:k82l0.T):evPos E0 (orcOf (fes82)) 17 an82 (loOf (les82 gl0)) (rk82 s0) (p82.getD 0 ⟨0,[], .skip⟩) (k82l0.mk' s)=B82l0 gl0 s.1.1 s.1.2.1:=by kernel_rfl
noncomputable def B82 (x0:Int):Option R82:=gl0 x0 2
theorem e82 (s:ask82.T):evFn E0 (orcOf (fes82)) an82 (loOf (les82 gl0)) 17 cd82 Tryz.f82.results.toList rm82 (ask82.mk' s) (decW rsk82 dec82)=B82 gl0 s.1.1:=by kernel_rfl
end
noncomputable def an20:Ann:=⟨[(3,[(3, .any),(4, .any)])],[],[]⟩
noncomputable def cd20:Code:=(Tryz.f20.body).getD .skip
noncomputable def p20:List Pos:=posns an20 [] cd20
noncomputable def rm20:List RM:=[.d (.it .i64)]
noncomputable def rk20 (s0:SbT ask20.bl):KX R20:=retK E0 Tryz.f20.results.toList rm20 (mkB ask20.bl s0) (decW rsk20 dec20)
noncomputable def k20l0:Sk:=⟨[(3, .d (.it .i64)),(4, .d (.it .i64))],[]⟩
noncomputable def les20 (gl0:Int→Int→Option R20):List (LoE R20):=[⟨3,k20l0,fun s=>gl0 s.1.1 s.1.2.1⟩]
noncomputable def fes20 (c82:Int→Option R82):List FE:=[(fe82 c82)]
section
variable (gl0:Int→Int→Option R20) (c82:Int→Option R82)
noncomputable def B20l0 (x3:Int) (x4:Int):Option R20:=if x4>0 then((c82 x3).bind fun r1=>(cnd (r1) (gl0 (wrap64 (x3+1)) (wrap64 (x4-1))) (gl0 (wrap64 (x3+1)) x4)))else((c82 x3).bind fun r2=>(cnd ((!r2)) ((c82 x3).bind fun r3=>(cnd (r3) (gl0 (wrap64 (x3+1)) (wrap64 (x4-1))) (gl0 (wrap64 (x3+1)) x4))) (some x3)))
theorem e20l0 (s0:SbT ask20.bl) (s:k20l0.T):evPos E0 (orcOf (fes20 c82)) 22 an20 (loOf (les20 gl0)) (rk20 s0) (p20.getD 0 ⟨0,[], .skip⟩) (k20l0.mk' s)=B20l0 gl0 c82 s.1.1 s.1.2.1:=by kernel_rfl
noncomputable def B20 (x0:Int):Option R20:=if(8:Int)=0 then(none)else(gl0 3 (wrap64 (Int.tmod x0 8)))
theorem e20 (s:ask20.T):evFn E0 (orcOf (fes20 c82)) an20 (loOf (les20 gl0)) 22 cd20 Tryz.f20.results.toList rm20 (ask20.mk' s) (decW rsk20 dec20)=B20 gl0 s.1.1:=by kernel_rfl
end
noncomputable def an91:Ann:=⟨[],[],[]⟩
noncomputable def cd91:Code:=(Tryz.f91.body).getD .skip
noncomputable def rm91:List RM:=[.d (.it .i64)]
noncomputable def les91:List (LoE R91):=[]
noncomputable def fes91:List FE:=[]
noncomputable def B91 (x0:ByteArray):Option R91:=if(x0.size:Int)>0 then(if(0:Int)≤0 then(if 0<(x0.size:Int)then(if bt x0 0=0 then(some 1)else(if(x0.size:Int)>1024 then(some 4)else(some 0)))else(none))else(none))else(if(x0.size:Int)>1024 then(some 4)else(some 0))
theorem e91 (s:ask91.T):evFn E0 (orcOf (fes91)) an91 (loOf (les91)) 14 cd91 Tryz.f91.results.toList rm91 (ask91.mk' s) (decW rsk91 dec91)=B91 s.1.1:=by kernel_rfl
noncomputable def an4:Ann:=⟨[(18,[(5, .any),(6, .any),(11, .any),(14, .any),(16, .val (.li (.it .i64))),(17, .val (.li (.it .i64))),(18, .any)])],[],[]⟩
noncomputable def cd4:Code:=(Tryz.f4.body).getD .skip
noncomputable def p4:List Pos:=posns an4 [] cd4
noncomputable def rm4:List RM:=[.d .bo]
noncomputable def k4l0:Sk:=⟨[(5, .d (.it .i64)),(6, .d (.it .i64)),(11, .f (.a (.ptr 11 0 []))),(14, .d (.li (.it .i64))),(16, .d (.li (.it .i64))),(17, .d (.li (.it .i64))),(18, .d (.it .i64))],[(11, .cell (.ag (.pr (.it .i64) (.li (.it .i64)))) true)]⟩
noncomputable def les4 (gl0:Int→Int→(List Int)→(List Int)→(List Int)→Int→(Int×(List Int))→Option R4):List (LoE R4):=[⟨18,k4l0,fun s=>gl0 s.1.1 s.1.2.1 s.1.2.2.1 s.1.2.2.2.1 s.1.2.2.2.2.1 s.1.2.2.2.2.2.1 s.2.1⟩]
noncomputable def fes4 (c19:Option R19) (c20:Int→Option R20) (c21:Int→Int→Option R21) (c22:Int→Int→Option R22) (c23:(Int×(List Int))→Option R23) (c24:(Int×(List Int))→(List Int)→ByteArray→Option R24) (c25:Int→Option R25) (c26:(Int×(List Int))→(List Int)→(List Int)→Option R26) (c27:Int→Int→Option R27) (c28:(Int×(List Int))→(List Int)→(List Int)→Option R28) (c29:(Int×(List Int))→(List Int)→(List Int)→Option R29) (c30:(Int×(List Int))→(List Int)→Int→Option R30) (c31:Int→Int→Option R31) (c32:Int→Int→Option R32) (c33:Int→Option R33) (c34:(List Int)→(List Int)→Option R34):List FE:=[(fe19 c19),(fe20 c20),(fe21 c21),(fe22 c22),(fe23 c23),(fe24 c24),(fe25 c25),(fe26 c26),(fe27 c27),(fe28 c28),(fe29 c29),(fe30 c30),(fe31 c31),(fe32 c32),(fe33 c33),(fe34 c34)]
section
variable (gl0:Int→Int→(List Int)→(List Int)→(List Int)→Int→(Int×(List Int))→Option R4) (c19:Option R19) (c20:Int→Option R20) (c21:Int→Int→Option R21) (c22:Int→Int→Option R22) (c23:(Int×(List Int))→Option R23) (c24:(Int×(List Int))→(List Int)→ByteArray→Option R24) (c25:Int→Option R25) (c26:(Int×(List Int))→(List Int)→(List Int)→Option R26) (c27:Int→Int→Option R27) (c28:(Int×(List Int))→(List Int)→(List Int)→Option R28) (c29:(Int×(List Int))→(List Int)→(List Int)→Option R29) (c30:(Int×(List Int))→(List Int)→Int→Option R30) (c31:Int→Int→Option R31) (c32:Int→Int→Option R32) (c33:Int→Option R33) (c34:(List Int)→(List Int)→Option R34)
noncomputable def B4 (x0:Int) (x1:Int):Option R4:=(c19).bind fun r1=>(cnd ((!r1)) (some false) ((c20 x0).bind fun r2=>((c20 x1).bind fun r3=>(if r2=r3 then(some true)else((c21 r2 r3).bind fun r4=>(if r4.1>2500 then(some true)else(if r4.2>16 then(some true)else((c22 r3 r4.2).bind fun r5=>((c23 (r3,r5.1)).bind fun r6=>(if r2=0 then(none)else((c25 (wrap64 (Int.tdiv (wrap64 (r4.1-1)) r2))).bind fun r7=>((c24 (r3,r5.1) r6.1 r7.2).bind fun r8=>(if r5.2≠0 then(some false)else(if r6.2≠0 then(some false)else(if r8.2≠0 then(some false)else(gl0 r2 r3 r8.1 ([]:List Int) ([1]:List Int) 1 (r3,r5.1)))))))))))))))))
theorem e4 (s:ask4.T):evFn E0 (orcOf (fes4 c19 c20 c21 c22 c23 c24 c25 c26 c27 c28 c29 c30 c31 c32 c33 c34)) an4 (loOf (les4 gl0)) 208 cd4 Tryz.f4.results.toList rm4 (ask4.mk' s) (decW rsk4 dec4)=B4 gl0 c19 c20 c21 c22 c23 c24 c25 s.1.1 s.1.2.1:=by kernel_rfl
end
noncomputable def an124:Ann:=⟨[],[],[]⟩
noncomputable def cd124:Code:=(Tryz.f124.body).getD .skip
noncomputable def rm124:List RM:=[.d (.it .i64)]
noncomputable def les124:List (LoE R124):=[]
noncomputable def fes124 (c186:Int→Option R186):List FE:=[(fe186 c186)]
section
variable (c186:Int→Option R186)
noncomputable def B124 (x0:Int):Option R124:=if x0<2 then(some 3)else(if x0>23 then(some 3)else((c186 x0).bind fun r1=>(cnd ((!r1.1)) (some 7) (some 0))))
theorem e124 (s:ask124.T):evFn E0 (orcOf (fes124 c186)) an124 (loOf (les124)) 18 cd124 Tryz.f124.results.toList rm124 (ask124.mk' s) (decW rsk124 dec124)=B124 c186 s.1.1:=by kernel_rfl
end
noncomputable def an199:Ann:=⟨[],[],[]⟩
noncomputable def cd199:Code:=(Tryz.f199.body).getD .skip
noncomputable def rm199:List RM:=[.d .bo]
noncomputable def les199:List (LoE R199):=[]
noncomputable def fes199 (c200:Int→Int→Option R200):List FE:=[(fe200 c200)]
section
variable (c200:Int→Int→Option R200)
noncomputable def B199 (x0:Int) (x1:Int):Option R199:=(c200 x0 x1).bind fun r1=>(some (decide (r1≠1)))
theorem e199 (s:ask199.T):evFn E0 (orcOf (fes199 c200)) an199 (loOf (les199)) 8 cd199 Tryz.f199.results.toList rm199 (ask199.mk' s) (decW rsk199 dec199)=B199 c200 s.1.1 s.1.2.1:=by kernel_rfl
end
noncomputable def an239coprime:Ann:=⟨[(2,[(0, .any),(1, .any),(7, .any),(8, .any)])],[],[]⟩
noncomputable def cd239coprime:Code:=(Tryz.f239.body).getD .skip
noncomputable def p239coprime:List Pos:=posns an239coprime [] cd239coprime
noncomputable def rm239coprime:List RM:=[.d (.it .i64)]
noncomputable def rk239coprime (s0:SbT ask239coprime.bl):KX R239coprime:=retK E0 Tryz.f239.results.toList rm239coprime (mkB ask239coprime.bl s0) (decW rsk239coprime dec239coprime)
noncomputable def k239coprimel0:Sk:=⟨[(0, .d (.li (.it .i64))),(1, .cl 199 [(.it .i64)]),(7, .d (.it .i64)),(8, .d (.it .i64))],[]⟩
noncomputable def les239coprime (gl0:(List Int)→(Int×Unit)→Int→Int→Option R239coprime):List (LoE R239coprime):=[⟨2,k239coprimel0,fun s=>gl0 s.1.1 s.1.2.1 s.1.2.2.1 s.1.2.2.2.1⟩]
noncomputable def fes239coprime (c199:Int→Int→Option R199):List FE:=[(fe199 c199)]
section
variable (gl0:(List Int)→(Int×Unit)→Int→Int→Option R239coprime) (c199:Int→Int→Option R199)
noncomputable def B239coprimel0 (x0:(List Int)) (x1:(Int×Unit)) (x7:Int) (x8:Int):Option R239coprime:=if x8<x7 then(if 0≤x8 then(if x8<(x0.length:Int)then((c199 (rd x0 x8) x1.1).bind fun r1=>(cnd (r1) (some x8) (gl0 x0 (x1.1,()) x7 (wrap64 (x8+1)))))else(none))else(none))else(some (-1))
theorem e239coprimel0 (s0:SbT ask239coprime.bl) (s:k239coprimel0.T):evPos E0 (orcOf (fes239coprime c199)) 19 an239coprime (loOf (les239coprime gl0)) (rk239coprime s0) (p239coprime.getD 0 ⟨0,[], .skip⟩) (k239coprimel0.mk' s)=B239coprimel0 gl0 c199 s.1.1 s.1.2.1 s.1.2.2.1 s.1.2.2.2.1:=by kernel_rfl
noncomputable def B239coprime (x0:(List Int)) (x1:(Int×Unit)):Option R239coprime:=gl0 x0 (x1.1,()) (x0.length:Int) 0
theorem e239coprime (s:ask239coprime.T):evFn E0 (orcOf (fes239coprime c199)) an239coprime (loOf (les239coprime gl0)) 19 cd239coprime Tryz.f239.results.toList rm239coprime (ask239coprime.mk' s) (decW rsk239coprime dec239coprime)=B239coprime gl0 s.1.1 s.1.2.1:=by kernel_rfl
end
noncomputable def an198coprime:Ann:=⟨[],[],[]⟩
noncomputable def cd198coprime:Code:=(Tryz.f198.body).getD .skip
noncomputable def rm198coprime:List RM:=[.d .bo]
noncomputable def les198coprime:List (LoE R198coprime):=[]
noncomputable def fes198coprime (c239coprime:(List Int)→(Int×Unit)→Option R239coprime):List FE:=[(fe239coprime c239coprime)]
section
variable (c239coprime:(List Int)→(Int×Unit)→Option R239coprime)
noncomputable def B198coprime (x0:(List Int)) (x1:(Int×Unit)):Option R198coprime:=(c239coprime x0 (x1.1,())).bind fun r1=>(some (decide (r1≥0)))
theorem e198coprime (s:ask198coprime.T):evFn E0 (orcOf (fes198coprime c239coprime)) an198coprime (loOf (les198coprime)) 9 cd198coprime Tryz.f198.results.toList rm198coprime (ask198coprime.mk' s) (decW rsk198coprime dec198coprime)=B198coprime c239coprime s.1.1 s.1.2.1:=by kernel_rfl
end
noncomputable def an116:Ann:=⟨[],[],[]⟩
noncomputable def cd116:Code:=(Tryz.f116.body).getD .skip
noncomputable def rm116:List RM:=[.d (.it .i64)]
noncomputable def les116:List (LoE R116):=[]
noncomputable def fes116 (c198coprime:(List Int)→(Int×Unit)→Option R198coprime):List FE:=[(fe198coprime c198coprime)]
section
variable (c198coprime:(List Int)→(Int×Unit)→Option R198coprime)
noncomputable def B116 (x0:Int) (x1:(List Int)):Option R116:=if(x1.length:Int)>256 then(some 5)else((c198coprime x1 (x0,())).bind fun r1=>(cnd (r1) (some 6) (some 0)))
theorem e116 (s:ask116.T):evFn E0 (orcOf (fes116 c198coprime)) an116 (loOf (les116)) 11 cd116 Tryz.f116.results.toList rm116 (ask116.mk' s) (decW rsk116 dec116)=B116 c198coprime s.1.1 s.1.2.1:=by kernel_rfl
end
noncomputable def an254:Ann:=⟨[],[],[]⟩
noncomputable def cd254:Code:=(Tryz.f254.body).getD .skip
noncomputable def rm254:List RM:=[.d (.ag (.pr .bo .st))]
noncomputable def les254:List (LoE R254):=[]
noncomputable def fes254:List FE:=[]
noncomputable def B254:Option R254:=some (false,(⟨#[]⟩:ByteArray))
theorem e254 (s:ask254.T):evFn E0 (orcOf (fes254)) an254 (loOf (les254)) 2 cd254 Tryz.f254.results.toList rm254 (ask254.mk' s) (decW rsk254 dec254)=B254:=by kernel_rfl
noncomputable def an223:Ann:=⟨[],[],[]⟩
noncomputable def cd223:Code:=(Tryz.f223.body).getD .skip
noncomputable def rm223:List RM:=[.d (.it .i64)]
noncomputable def les223:List (LoE R223):=[]
noncomputable def fes223 (c91:ByteArray→Option R91) (c254:Option R254):List FE:=[(fe91 c91),(fe254 c254)]
section
variable (c91:ByteArray→Option R91) (c254:Option R254)
noncomputable def B223 (x0:TI):Option R223:=(c91 x0.2).bind fun r1=>(if r1=1 then(some r1)else((c254).bind fun r2=>(cnd ((!((x0.1==r2.1)&&(eqS x0.2 r2.2)))) (cnd ((eqS x0.2 (⟨#[]⟩:ByteArray))) (some 1) (some r1)) (some r1))))
theorem e223 (s:ask223.T):evFn E0 (orcOf (fes223 c91 c254)) an223 (loOf (les223)) 21 cd223 Tryz.f223.results.toList rm223 (ask223.mk' s) (decW rsk223 dec223)=B223 c91 c254 s.1.1:=by kernel_rfl
end
noncomputable def an150:Ann:=⟨[],[],[]⟩
noncomputable def cd150:Code:=(Tryz.f150.body).getD .skip
noncomputable def rm150:List RM:=[.d (.it .i64)]
noncomputable def les150:List (LoE R150):=[]
noncomputable def fes150 (c91:ByteArray→Option R91) (c223:TI→Option R223) (c224:ByteArray→ByteArray→Option R224):List FE:=[(fe91 c91),(fe223 c223),(fe224 c224)]
section
variable (c91:ByteArray→Option R91) (c223:TI→Option R223) (c224:ByteArray→ByteArray→Option R224)
noncomputable def B150 (x0:TQ):Option R150:=(c223 x0.1).bind fun r1=>((c91 x0.2).bind fun r2=>(if r1=1 then(some 1)else(if r2=1 then(some 1)else(cnd ((eqS x0.2 (⟨#[]⟩:ByteArray))) (some 1) (if r1≠0 then(some r1)else(if r2≠0 then(some r2)else(cnd ((!(eqS x0.2 (⟨#[1]⟩:ByteArray)))) ((c224 x0.1.2 x0.2).bind fun r3=>(cnd ((!(eqS r3 (⟨#[1]⟩:ByteArray)))) (some 1) (some 0))) (some 0))))))))
theorem e150 (s:ask150.T):evFn E0 (orcOf (fes150 c91 c223 c224)) an150 (loOf (les150)) 44 cd150 Tryz.f150.results.toList rm150 (ask150.mk' s) (decW rsk150 dec150)=B150 c91 c223 c224 s.1.1:=by kernel_rfl
end
noncomputable def an204:Ann:=⟨[(4,[(0, .any),(9, .any),(10, .any),(11, .any)])],[],[]⟩
noncomputable def cd204:Code:=(Tryz.f204.body).getD .skip
noncomputable def p204:List Pos:=posns an204 [] cd204
noncomputable def rm204:List RM:=[.d (.it .i64)]
noncomputable def rk204 (s0:SbT ask204.bl):KX R204:=retK E0 Tryz.f204.results.toList rm204 (mkB ask204.bl s0) (decW rsk204 dec204)
noncomputable def k204l0:Sk:=⟨[(0, .d (.li (.ag (.pr (.ag (.pr .bo .st)) .st)))),(9, .d (.li (.ag (.pr (.ag (.pr .bo .st)) .st)))),(10, .d (.it .i64)),(11, .d (.it .i64))],[]⟩
noncomputable def les204 (gl0:(List TQ)→(List TQ)→Int→Int→Option R204):List (LoE R204):=[⟨4,k204l0,fun s=>gl0 s.1.1 s.1.2.1 s.1.2.2.1 s.1.2.2.2.1⟩]
noncomputable def fes204 (c78:TQ→Option R78) (c150:TQ→Option R150):List FE:=[(fe78 c78),(fe150 c150)]
section
variable (gl0:(List TQ)→(List TQ)→Int→Int→Option R204) (c78:TQ→Option R78) (c150:TQ→Option R150)
noncomputable def B204l0 (x0:(List TQ)) (x9:(List TQ)) (x10:Int) (x11:Int):Option R204:=if x11<x10 then(if 0≤x11 then(if x11<(x9.length:Int)then((c150 (rdOf ((false,(⟨#[]⟩:ByteArray)),(⟨#[]⟩:ByteArray)) x9 x11)).bind fun r1=>(if r1≠0 then(some r1)else(gl0 x0 x9 x10 (wrap64 (x11+1)))))else(none))else(none))else(if(x0.length:Int)>0 then(if 0≤wrap64 ((x0.length:Int)-1)then(if wrap64 ((x0.length:Int)-1)<(x0.length:Int)then((c78 (rdOf ((false,(⟨#[]⟩:ByteArray)),(⟨#[]⟩:ByteArray)) x0 (wrap64 ((x0.length:Int)-1)))).bind fun r2=>(cnd (r2) (some 1) (some 0)))else(none))else(none))else(some 0))
theorem e204l0 (s0:SbT ask204.bl) (s:k204l0.T):evPos E0 (orcOf (fes204 c78 c150)) 33 an204 (loOf (les204 gl0)) (rk204 s0) (p204.getD 0 ⟨0,[], .skip⟩) (k204l0.mk' s)=B204l0 gl0 c78 c150 s.1.1 s.1.2.1 s.1.2.2.1 s.1.2.2.2.1:=by kernel_rfl
noncomputable def B204 (x0:(List TQ)):Option R204:=if(x0.length:Int)>65 then(some 4)else(gl0 x0 x0 (x0.length:Int) 0)
theorem e204 (s:ask204.T):evFn E0 (orcOf (fes204 c78 c150)) an204 (loOf (les204 gl0)) 33 cd204 Tryz.f204.results.toList rm204 (ask204.mk' s) (decW rsk204 dec204)=B204 gl0 s.1.1:=by kernel_rfl
end
noncomputable def an243:Ann:=⟨[],[],[]⟩
noncomputable def cd243:Code:=(Tryz.f243.body).getD .skip
noncomputable def rm243:List RM:=[.d .bo]
noncomputable def les243:List (LoE R243):=[]
noncomputable def fes243:List FE:=[]
noncomputable def B243 (x0:TQ):Option R243:=some (eqS x0.2 (⟨#[1]⟩:ByteArray))
theorem e243 (s:ask243.T):evFn E0 (orcOf (fes243)) an243 (loOf (les243)) 6 cd243 Tryz.f243.results.toList rm243 (ask243.mk' s) (decW rsk243 dec243)=B243 s.1.1:=by kernel_rfl
noncomputable def an242:Ann:=⟨[],[],[]⟩
noncomputable def cd242:Code:=(Tryz.f242.body).getD .skip
noncomputable def rm242:List RM:=[.d .bo]
noncomputable def les242:List (LoE R242):=[]
noncomputable def fes242 (c243:TQ→Option R243):List FE:=[(fe243 c243)]
section
variable (c243:TQ→Option R243)
noncomputable def B242 (x0:TQ):Option R242:=(c243 x0).bind fun r1=>(some (!r1))
theorem e242 (s:ask242.T):evFn E0 (orcOf (fes242 c243)) an242 (loOf (les242)) 6 cd242 Tryz.f242.results.toList rm242 (ask242.mk' s) (decW rsk242 dec242)=B242 c243 s.1.1:=by kernel_rfl
end
noncomputable def an269Form:Ann:=⟨[(2,[(0, .any),(1, .any),(7, .any),(8, .any)])],[],[]⟩
noncomputable def cd269Form:Code:=(Tryz.f269.body).getD .skip
noncomputable def p269Form:List Pos:=posns an269Form [] cd269Form
noncomputable def rm269Form:List RM:=[.d (.it .i64)]
noncomputable def rk269Form (s0:SbT ask269Form.bl):KX R269Form:=retK E0 Tryz.f269.results.toList rm269Form (mkB ask269Form.bl s0) (decW rsk269Form dec269Form)
noncomputable def k269Forml0:Sk:=⟨[(0, .d (.li (.ag (.pr (.ag (.pr .bo .st)) .st)))),(1, .f (.cl 242 [])),(7, .d (.it .i64)),(8, .d (.it .i64))],[]⟩
noncomputable def les269Form (gl0:(List TQ)→Int→Int→Option R269Form):List (LoE R269Form):=[⟨2,k269Forml0,fun s=>gl0 s.1.1 s.1.2.1 s.1.2.2.1⟩]
noncomputable def fes269Form (c242:TQ→Option R242):List FE:=[(fe242 c242)]
section
variable (gl0:(List TQ)→Int→Int→Option R269Form) (c242:TQ→Option R242)
noncomputable def B269Forml0 (x0:(List TQ)) (x7:Int) (x8:Int):Option R269Form:=if x8<x7 then(if 0≤x8 then(if x8<(x0.length:Int)then((c242 (rdOf ((false,(⟨#[]⟩:ByteArray)),(⟨#[]⟩:ByteArray)) x0 x8)).bind fun r1=>(cnd (r1) (some x8) (gl0 x0 x7 (wrap64 (x8+1)))))else(none))else(none))else(some (-1))
theorem e269Forml0 (s0:SbT ask269Form.bl) (s:k269Forml0.T):evPos E0 (orcOf (fes269Form c242)) 19 an269Form (loOf (les269Form gl0)) (rk269Form s0) (p269Form.getD 0 ⟨0,[], .skip⟩) (k269Forml0.mk' s)=B269Forml0 gl0 c242 s.1.1 s.1.2.1 s.1.2.2.1:=by kernel_rfl
noncomputable def B269Form (x0:(List TQ)):Option R269Form:=gl0 x0 (x0.length:Int) 0
theorem e269Form (s:ask269Form.T):evFn E0 (orcOf (fes269Form c242)) an269Form (loOf (les269Form gl0)) 19 cd269Form Tryz.f269.results.toList rm269Form (ask269Form.mk' s) (decW rsk269Form dec269Form)=B269Form gl0 s.1.1:=by kernel_rfl
end
noncomputable def an241Form:Ann:=⟨[],[],[]⟩
noncomputable def cd241Form:Code:=(Tryz.f241.body).getD .skip
noncomputable def rm241Form:List RM:=[.d .bo]
noncomputable def les241Form:List (LoE R241Form):=[]
noncomputable def fes241Form (c269Form:(List TQ)→Option R269Form):List FE:=[(fe269Form c269Form)]
section
variable (c269Form:(List TQ)→Option R269Form)
noncomputable def B241Form (x0:(List TQ)):Option R241Form:=(c269Form x0).bind fun r1=>(some (decide (r1≥0)))
theorem e241Form (s:ask241Form.T):evFn E0 (orcOf (fes241Form c269Form)) an241Form (loOf (les241Form)) 9 cd241Form Tryz.f241.results.toList rm241Form (ask241Form.mk' s) (decW rsk241Form dec241Form)=B241Form c269Form s.1.1:=by kernel_rfl
end
noncomputable def an203:Ann:=⟨[],[],[]⟩
noncomputable def cd203:Code:=(Tryz.f203.body).getD .skip
noncomputable def rm203:List RM:=[.d (.it .i64)]
noncomputable def les203:List (LoE R203):=[]
noncomputable def fes203 (c122:Int→Option R122) (c204:(List TQ)→Option R204) (c241Form:(List TQ)→Option R241Form):List FE:=[(fe122 c122),(fe204 c204),(fe241Form c241Form)]
section
variable (c122:Int→Option R122) (c204:(List TQ)→Option R204) (c241Form:(List TQ)→Option R241Form)
noncomputable def B203 (x0:(List TQ)):Option R203:=(c204 x0).bind fun r1=>(if r1≠0 then(some r1)else(if wrap64 ((x0.length:Int)-1)<1 then(some 1)else(if 0≤wrap64 ((x0.length:Int)-1)then(if wrap64 ((x0.length:Int)-1)<(x0.length:Int)then((c122 1).bind fun r2=>(cnd ((!((((((rdOf ((false,(⟨#[]⟩:ByteArray)),(⟨#[]⟩:ByteArray)) x0 (wrap64 ((x0.length:Int)-1))).1).1)==r2.1.1)&&(eqS (((rdOf ((false,(⟨#[]⟩:ByteArray)),(⟨#[]⟩:ByteArray)) x0 (wrap64 ((x0.length:Int)-1))).1).2) r2.1.2))&&(eqS ((rdOf ((false,(⟨#[]⟩:ByteArray)),(⟨#[]⟩:ByteArray)) x0 (wrap64 ((x0.length:Int)-1))).2) r2.2)))) (some 1) ((c241Form x0).bind fun r3=>(cnd (r3) (some 1) (if wrap64 ((x0.length:Int)-1)>24 then(some 4)else(some 0))))))else(none))else(none))))
theorem e203 (s:ask203.T):evFn E0 (orcOf (fes203 c122 c204 c241Form)) an203 (loOf (les203)) 33 cd203 Tryz.f203.results.toList rm203 (ask203.mk' s) (decW rsk203 dec203)=B203 c122 c204 c241Form s.1.1:=by kernel_rfl
end
noncomputable def an118:Ann:=⟨[],[],[]⟩
noncomputable def cd118:Code:=(Tryz.f118.body).getD .skip
noncomputable def rm118:List RM:=[.d (.it .i64)]
noncomputable def les118:List (LoE R118):=[]
noncomputable def fes118 (c203:(List TQ)→Option R203) (c204:(List TQ)→Option R204):List FE:=[(fe203 c203),(fe204 c204)]
section
variable (c203:(List TQ)→Option R203) (c204:(List TQ)→Option R204)
noncomputable def B118 (x0:(List TQ)) (x1:(List TQ)):Option R118:=(c203 x0).bind fun r1=>(if r1≠0 then(some r1)else((c204 x1).bind fun r2=>(if r2≠0 then(some r2)else(if(x1.length:Int)≥(x0.length:Int)then(some 3)else(some 0)))))
theorem e118 (s:ask118.T):evFn E0 (orcOf (fes118 c203 c204)) an118 (loOf (les118)) 23 cd118 Tryz.f118.results.toList rm118 (ask118.mk' s) (decW rsk118 dec118)=B118 c203 c204 s.1.1 s.1.2.1:=by kernel_rfl
end
noncomputable def an269Large:Ann:=⟨[(2,[(0, .any),(1, .any),(7, .any),(8, .any)])],[],[]⟩
noncomputable def cd269Large:Code:=(Tryz.f269.body).getD .skip
noncomputable def p269Large:List Pos:=posns an269Large [] cd269Large
noncomputable def rm269Large:List RM:=[.d (.it .i64)]
noncomputable def rk269Large (s0:SbT ask269Large.bl):KX R269Large:=retK E0 Tryz.f269.results.toList rm269Large (mkB ask269Large.bl s0) (decW rsk269Large dec269Large)
noncomputable def k269Largel0:Sk:=⟨[(0, .d (.li (.ag (.pr (.ag (.pr .bo .st)) .st)))),(1, .f (.cl 158 [])),(7, .d (.it .i64)),(8, .d (.it .i64))],[]⟩
noncomputable def les269Large (gl0:(List TQ)→Int→Int→Option R269Large):List (LoE R269Large):=[⟨2,k269Largel0,fun s=>gl0 s.1.1 s.1.2.1 s.1.2.2.1⟩]
noncomputable def fes269Large (c158:TQ→Option R158):List FE:=[(fe158 c158)]
section
variable (gl0:(List TQ)→Int→Int→Option R269Large) (c158:TQ→Option R158)
noncomputable def B269Largel0 (x0:(List TQ)) (x7:Int) (x8:Int):Option R269Large:=if x8<x7 then(if 0≤x8 then(if x8<(x0.length:Int)then((c158 (rdOf ((false,(⟨#[]⟩:ByteArray)),(⟨#[]⟩:ByteArray)) x0 x8)).bind fun r1=>(cnd (r1) (some x8) (gl0 x0 x7 (wrap64 (x8+1)))))else(none))else(none))else(some (-1))
theorem e269Largel0 (s0:SbT ask269Large.bl) (s:k269Largel0.T):evPos E0 (orcOf (fes269Large c158)) 19 an269Large (loOf (les269Large gl0)) (rk269Large s0) (p269Large.getD 0 ⟨0,[], .skip⟩) (k269Largel0.mk' s)=B269Largel0 gl0 c158 s.1.1 s.1.2.1 s.1.2.2.1:=by kernel_rfl
noncomputable def B269Large (x0:(List TQ)):Option R269Large:=gl0 x0 (x0.length:Int) 0
theorem e269Large (s:ask269Large.T):evFn E0 (orcOf (fes269Large c158)) an269Large (loOf (les269Large gl0)) 19 cd269Large Tryz.f269.results.toList rm269Large (ask269Large.mk' s) (decW rsk269Large dec269Large)=B269Large gl0 s.1.1:=by kernel_rfl
end
noncomputable def an241Large:Ann:=⟨[],[],[]⟩
noncomputable def cd241Large:Code:=(Tryz.f241.body).getD .skip
noncomputable def rm241Large:List RM:=[.d .bo]
noncomputable def les241Large:List (LoE R241Large):=[]
noncomputable def fes241Large (c269Large:(List TQ)→Option R269Large):List FE:=[(fe269Large c269Large)]
section
variable (c269Large:(List TQ)→Option R269Large)
noncomputable def B241Large (x0:(List TQ)):Option R241Large:=(c269Large x0).bind fun r1=>(some (decide (r1≥0)))
theorem e241Large (s:ask241Large.T):evFn E0 (orcOf (fes241Large c269Large)) an241Large (loOf (les241Large)) 9 cd241Large Tryz.f241.results.toList rm241Large (ask241Large.mk' s) (decW rsk241Large dec241Large)=B241Large c269Large s.1.1:=by kernel_rfl
end
noncomputable def an245:Ann:=⟨[],[],[]⟩
noncomputable def cd245:Code:=(Tryz.f245.body).getD .skip
noncomputable def rm245:List RM:=[.d .bo]
noncomputable def les245:List (LoE R245):=[]
noncomputable def fes245 (c241Large:(List TQ)→Option R241Large):List FE:=[(fe241Large c241Large)]
section
variable (c241Large:(List TQ)→Option R241Large)
noncomputable def B245 (x0:(List TQ)):Option R245:=(c241Large x0).bind fun r1=>(some r1)
theorem e245 (s:ask245.T):evFn E0 (orcOf (fes245 c241Large)) an245 (loOf (les245)) 5 cd245 Tryz.f245.results.toList rm245 (ask245.mk' s) (decW rsk245 dec245)=B245 c241Large s.1.1:=by kernel_rfl
end
noncomputable def an270Large:Ann:=⟨[(2,[(0, .any),(1, .any),(7, .any),(8, .any)])],[],[]⟩
noncomputable def cd270Large:Code:=(Tryz.f270.body).getD .skip
noncomputable def p270Large:List Pos:=posns an270Large [] cd270Large
noncomputable def rm270Large:List RM:=[.d (.it .i64)]
noncomputable def rk270Large (s0:SbT ask270Large.bl):KX R270Large:=retK E0 Tryz.f270.results.toList rm270Large (mkB ask270Large.bl s0) (decW rsk270Large dec270Large)
noncomputable def k270Largel0:Sk:=⟨[(0, .d (.li (.li (.ag (.pr (.ag (.pr .bo .st)) .st))))),(1, .f (.cl 245 [])),(7, .d (.it .i64)),(8, .d (.it .i64))],[]⟩
noncomputable def les270Large (gl0:(List (List TQ))→Int→Int→Option R270Large):List (LoE R270Large):=[⟨2,k270Largel0,fun s=>gl0 s.1.1 s.1.2.1 s.1.2.2.1⟩]
noncomputable def fes270Large (c245:(List TQ)→Option R245):List FE:=[(fe245 c245)]
section
variable (gl0:(List (List TQ))→Int→Int→Option R270Large) (c245:(List TQ)→Option R245)
noncomputable def B270Largel0 (x0:(List (List TQ))) (x7:Int) (x8:Int):Option R270Large:=if x8<x7 then(if 0≤x8 then(if x8<(x0.length:Int)then((c245 (rdOf ([]:List TQ) x0 x8)).bind fun r1=>(cnd (r1) (some x8) (gl0 x0 x7 (wrap64 (x8+1)))))else(none))else(none))else(some (-1))
theorem e270Largel0 (s0:SbT ask270Large.bl) (s:k270Largel0.T):evPos E0 (orcOf (fes270Large c245)) 19 an270Large (loOf (les270Large gl0)) (rk270Large s0) (p270Large.getD 0 ⟨0,[], .skip⟩) (k270Largel0.mk' s)=B270Largel0 gl0 c245 s.1.1 s.1.2.1 s.1.2.2.1:=by kernel_rfl
noncomputable def B270Large (x0:(List (List TQ))):Option R270Large:=gl0 x0 (x0.length:Int) 0
theorem e270Large (s:ask270Large.T):evFn E0 (orcOf (fes270Large c245)) an270Large (loOf (les270Large gl0)) 19 cd270Large Tryz.f270.results.toList rm270Large (ask270Large.mk' s) (decW rsk270Large dec270Large)=B270Large gl0 s.1.1:=by kernel_rfl
end
noncomputable def an244Large:Ann:=⟨[],[],[]⟩
noncomputable def cd244Large:Code:=(Tryz.f244.body).getD .skip
noncomputable def rm244Large:List RM:=[.d .bo]
noncomputable def les244Large:List (LoE R244Large):=[]
noncomputable def fes244Large (c270Large:(List (List TQ))→Option R270Large):List FE:=[(fe270Large c270Large)]
section
variable (c270Large:(List (List TQ))→Option R270Large)
noncomputable def B244Large (x0:(List (List TQ))):Option R244Large:=(c270Large x0).bind fun r1=>(some (decide (r1≥0)))
theorem e244Large (s:ask244Large.T):evFn E0 (orcOf (fes244Large c270Large)) an244Large (loOf (les244Large)) 9 cd244Large Tryz.f244.results.toList rm244Large (ask244Large.mk' s) (decW rsk244Large dec244Large)=B244Large c270Large s.1.1:=by kernel_rfl
end
noncomputable def an205:Ann:=⟨[],[],[]⟩
noncomputable def cd205:Code:=(Tryz.f205.body).getD .skip
noncomputable def rm205:List RM:=[.d .bo]
noncomputable def les205:List (LoE R205):=[]
noncomputable def fes205 (c244Large:(List (List TQ))→Option R244Large):List FE:=[(fe244Large c244Large)]
section
variable (c244Large:(List (List TQ))→Option R244Large)
noncomputable def B205 (x0:(List (List TQ))):Option R205:=(c244Large x0).bind fun r1=>(some r1)
theorem e205 (s:ask205.T):evFn E0 (orcOf (fes205 c244Large)) an205 (loOf (les205)) 5 cd205 Tryz.f205.results.toList rm205 (ask205.mk' s) (decW rsk205 dec205)=B205 c244Large s.1.1:=by kernel_rfl
end
noncomputable def an119:Ann:=⟨[],[],[]⟩
noncomputable def cd119:Code:=(Tryz.f119.body).getD .skip
noncomputable def rm119:List RM:=[.d (.li (.ag (.pr (.ag (.pr .bo .st)) .st))), .d (.it .i64)]
noncomputable def les119:List (LoE R119):=[]
noncomputable def fes119 (c205:(List (List TQ))→Option R205):List FE:=[(fe205 c205)]
section
variable (c205:(List (List TQ))→Option R205)
noncomputable def B119 (x0:(List TQ)):Option R119:=(c205 ([x0]:List (List TQ))).bind fun r1=>(cnd (r1) (some (([]:List TQ),4)) (some (x0,0)))
theorem e119 (s:ask119.T):evFn E0 (orcOf (fes119 c205)) an119 (loOf (les119)) 8 cd119 Tryz.f119.results.toList rm119 (ask119.mk' s) (decW rsk119 dec119)=B119 c205 s.1.1:=by kernel_rfl
end
noncomputable def an246:Ann:=⟨[],[],[]⟩
noncomputable def cd246:Code:=(Tryz.f246.body).getD .skip
noncomputable def rm246:List RM:=[.d (.ag (.pr (.ag (.pr .bo .st)) .st))]
noncomputable def les246:List (LoE R246):=[]
noncomputable def fes246 (c122:Int→Option R122):List FE:=[(fe122 c122)]
section
variable (c122:Int→Option R122)
noncomputable def B246 (x0:(List TQ)) (x1:Int):Option R246:=if x1<0 then((c122 0).bind fun r1=>(some (r1.1,r1.2)))else(if x1≥(x0.length:Int)then((c122 0).bind fun r2=>(some (r2.1,r2.2)))else(if 0≤x1 then(if x1<(x0.length:Int)then(some ((rdOf ((false,(⟨#[]⟩:ByteArray)),(⟨#[]⟩:ByteArray)) x0 x1).1,(rdOf ((false,(⟨#[]⟩:ByteArray)),(⟨#[]⟩:ByteArray)) x0 x1).2))else(none))else(none)))
theorem e246 (s:ask246.T):evFn E0 (orcOf (fes246 c122)) an246 (loOf (les246)) 18 cd246 Tryz.f246.results.toList rm246 (ask246.mk' s) (decW rsk246 dec246)=B246 c122 s.1.1 s.1.2.1:=by kernel_rfl
end
noncomputable def an206:Ann:=⟨[(3,[(0, .any),(1, .any),(5, .any),(14, .any),(15, .any)])],[],[]⟩
noncomputable def cd206:Code:=(Tryz.f206.body).getD .skip
noncomputable def p206:List Pos:=posns an206 [] cd206
noncomputable def rm206:List RM:=[.d (.li (.ag (.pr (.ag (.pr .bo .st)) .st)))]
noncomputable def rk206 (s0:SbT ask206.bl):KX R206:=retK E0 Tryz.f206.results.toList rm206 (mkB ask206.bl s0) (decW rsk206 dec206)
noncomputable def k206l0:Sk:=⟨[(0, .d (.li (.ag (.pr (.ag (.pr .bo .st)) .st)))),(1, .d (.li (.ag (.pr (.ag (.pr .bo .st)) .st)))),(5, .f (.a (.ref 5))),(14, .d (.it .i64)),(15, .d (.it .i64))],[(5, .own (.ag (.pr (.ag (.pr .bo .st)) .st)) true)]⟩
noncomputable def les206 (gl0:(List TQ)→(List TQ)→Int→Int→(List TQ)→Option R206):List (LoE R206):=[⟨3,k206l0,fun s=>gl0 s.1.1 s.1.2.1 s.1.2.2.1 s.1.2.2.2.1 s.2.1⟩]
noncomputable def fes206 (c74:TQ→TQ→Option R74) (c123:(List TQ)→Option R123) (c246:(List TQ)→Int→Option R246):List FE:=[(fe74 c74),(fe123 c123),(fe246 c246)]
section
variable (gl0:(List TQ)→(List TQ)→Int→Int→(List TQ)→Option R206) (c74:TQ→TQ→Option R74) (c123:(List TQ)→Option R123) (c246:(List TQ)→Int→Option R246)
noncomputable def B206l0 (x0:(List TQ)) (x1:(List TQ)) (x14:Int) (x15:Int) (x5:(List TQ)):Option R206:=if x15<x14 then((c246 x0 x15).bind fun r1=>((c246 x1 x15).bind fun r2=>((c74 (r1.1,r1.2) (r2.1,r2.2)).bind fun r3=>(if 0≤x15 then(if x15<(x5.length:Int)then(gl0 x0 x1 x14 (wrap64 (x15+1)) (x5.set (x15:Int).toNat (r3.1,r3.2)))else(none))else(none)))))else((c123 x5).bind fun r4=>(some r4))
theorem e206l0 (s0:SbT ask206.bl) (s:k206l0.T):evPos E0 (orcOf (fes206 c74 c123 c246)) 31 an206 (loOf (les206 gl0)) (rk206 s0) (p206.getD 0 ⟨0,[], .skip⟩) (k206l0.mk' s)=B206l0 gl0 c74 c123 c246 s.1.1 s.1.2.1 s.1.2.2.1 s.1.2.2.2.1 s.2.1:=by kernel_rfl
noncomputable def B206 (x0:(List TQ)) (x1:(List TQ)):Option R206:=if 0≤mx (x0.length:Int) (x1.length:Int)then(if mx (x0.length:Int) (x1.length:Int)≤mx (x0.length:Int) (x1.length:Int)then(if(mx (x0.length:Int) (x1.length:Int):Int).toNat≤7036874417766 then(gl0 x0 x1 ((List.replicate (mx (x0.length:Int) (x1.length:Int):Int).toNat ((false,(⟨#[]⟩:ByteArray)),(⟨#[]⟩:ByteArray))).length:Int) 0 (List.replicate (mx (x0.length:Int) (x1.length:Int):Int).toNat ((false,(⟨#[]⟩:ByteArray)),(⟨#[]⟩:ByteArray))))else(none))else(none))else(none)
theorem e206 (s:ask206.T):evFn E0 (orcOf (fes206 c74 c123 c246)) an206 (loOf (les206 gl0)) 31 cd206 Tryz.f206.results.toList rm206 (ask206.mk' s) (decW rsk206 dec206)=B206 gl0 s.1.1 s.1.2.1:=by kernel_rfl
end
noncomputable def an131:Ann:=⟨[(5,[(0, .any),(1, .any),(5, .any),(27, .any),(28, .any)]),(10,[(1, .any),(5, .any),(36, .any),(37, .any),(38, .any)]),(14,[(1, .any),(5, .any),(7, .any),(8, .any),(36, .any),(37, .any),(38, .any),(45, .any),(46, .any),(47, .any)])],[],[]⟩
noncomputable def cd131:Code:=(Tryz.f131.body).getD .skip
noncomputable def p131:List Pos:=posns an131 [] cd131
noncomputable def rm131:List RM:=[.d (.li (.ag (.pr (.ag (.pr .bo .st)) .st)))]
noncomputable def rk131 (s0:SbT ask131.bl):KX R131:=retK E0 Tryz.f131.results.toList rm131 (mkB ask131.bl s0) (decW rsk131 dec131)
noncomputable def k131l0:Sk:=⟨[(0, .d (.li (.ag (.pr (.ag (.pr .bo .st)) .st)))),(1, .d (.li (.ag (.pr (.ag (.pr .bo .st)) .st)))),(5, .f (.a (.ref 5))),(27, .d (.it .i64)),(28, .d (.it .i64))],[(5, .own (.ag (.pr (.ag (.pr .bo .st)) .st)) true)]⟩
noncomputable def k131l1:Sk:=⟨[(1, .d (.li (.ag (.pr (.ag (.pr .bo .st)) .st)))),(5, .f (.a (.ref 5))),(36, .d (.li (.ag (.pr (.ag (.pr .bo .st)) .st)))),(37, .d (.it .i64)),(38, .d (.it .i64))],[(5, .own (.ag (.pr (.ag (.pr .bo .st)) .st)) true)]⟩
noncomputable def k131l2:Sk:=⟨[(1, .d (.li (.ag (.pr (.ag (.pr .bo .st)) .st)))),(5, .f (.a (.ref 5))),(7, .d (.it .i64)),(8, .f (.a (.ptr 8 0 []))),(36, .d (.li (.ag (.pr (.ag (.pr .bo .st)) .st)))),(37, .d (.it .i64)),(38, .d (.it .i64)),(45, .d (.li (.ag (.pr (.ag (.pr .bo .st)) .st)))),(46, .d (.it .i64)),(47, .d (.it .i64))],[(5, .own (.ag (.pr (.ag (.pr .bo .st)) .st)) true),(8, .cell (.ag (.pr (.ag (.pr .bo .st)) .st)) true)]⟩
noncomputable def les131 (gl0:(List TQ)→(List TQ)→Int→Int→(List TQ)→Option R131) (gl1:(List TQ)→(List TQ)→Int→Int→(List TQ)→Option R131) (gl2:(List TQ)→Int→(List TQ)→Int→Int→(List TQ)→Int→Int→(List TQ)→TQ→Option R131):List (LoE R131):=[⟨5,k131l0,fun s=>gl0 s.1.1 s.1.2.1 s.1.2.2.1 s.1.2.2.2.1 s.2.1⟩,⟨10,k131l1,fun s=>gl1 s.1.1 s.1.2.1 s.1.2.2.1 s.1.2.2.2.1 s.2.1⟩,⟨14,k131l2,fun s=>gl2 s.1.1 s.1.2.1 s.1.2.2.1 s.1.2.2.2.1 s.1.2.2.2.2.1 s.1.2.2.2.2.2.1 s.1.2.2.2.2.2.2.1 s.1.2.2.2.2.2.2.2.1 s.2.1 s.2.2.1⟩]
noncomputable def fes131 (c74:TQ→TQ→Option R74) (c78:TQ→Option R78) (c122:Int→Option R122) (c123:(List TQ)→Option R123) (c156:TQ→TQ→Option R156):List FE:=[(fe74 c74),(fe78 c78),(fe122 c122),(fe123 c123),(fe156 c156)]
section
variable (gl0:(List TQ)→(List TQ)→Int→Int→(List TQ)→Option R131) (gl1:(List TQ)→(List TQ)→Int→Int→(List TQ)→Option R131) (gl2:(List TQ)→Int→(List TQ)→Int→Int→(List TQ)→Int→Int→(List TQ)→TQ→Option R131) (c74:TQ→TQ→Option R74) (c78:TQ→Option R78) (c122:Int→Option R122) (c123:(List TQ)→Option R123) (c156:TQ→TQ→Option R156)
noncomputable def B131l0 (x0:(List TQ)) (x1:(List TQ)) (x27:Int) (x28:Int) (x5:(List TQ)):Option R131:=if x28<x27 then((c122 0).bind fun r1=>(if 0≤x28 then(if x28<(x5.length:Int)then(gl0 x0 x1 x27 (wrap64 (x28+1)) (x5.set (x28:Int).toNat (r1.1,r1.2)))else(none))else(none)))else(gl1 x1 x0 (x0.length:Int) 0 x5)
theorem e131l0 (s0:SbT ask131.bl) (s:k131l0.T):evPos E0 (orcOf (fes131 c74 c78 c122 c123 c156)) 71 an131 (loOf (les131 gl0 gl1 gl2)) (rk131 s0) (p131.getD 0 ⟨0,[], .skip⟩) (k131l0.mk' s)=B131l0 gl0 gl1 c122 s.1.1 s.1.2.1 s.1.2.2.1 s.1.2.2.2.1 s.2.1:=by kernel_rfl
noncomputable def B131l1 (x1:(List TQ)) (x36:(List TQ)) (x37:Int) (x38:Int) (x5:(List TQ)):Option R131:=if x38<x37 then(if 0≤x38 then(if x38<(x36.length:Int)then((c78 (rdOf ((false,(⟨#[]⟩:ByteArray)),(⟨#[]⟩:ByteArray)) x36 x38)).bind fun r1=>(cnd (r1) (gl1 x1 x36 x37 (wrap64 (x38+1)) x5) (gl2 x1 x38 x36 x37 x38 x1 (x1.length:Int) 0 x5 (rdOf ((false,(⟨#[]⟩:ByteArray)),(⟨#[]⟩:ByteArray)) x36 x38))))else(none))else(none))else((c123 x5).bind fun r2=>(some r2))
theorem e131l1 (s0:SbT ask131.bl) (s:k131l1.T):evPos E0 (orcOf (fes131 c74 c78 c122 c123 c156)) 71 an131 (loOf (les131 gl0 gl1 gl2)) (rk131 s0) (p131.getD 1 ⟨0,[], .skip⟩) (k131l1.mk' s)=B131l1 gl1 gl2 c78 c123 s.1.1 s.1.2.1 s.1.2.2.1 s.1.2.2.2.1 s.2.1:=by kernel_rfl
noncomputable def B131l2 (x1:(List TQ)) (x7:Int) (x36:(List TQ)) (x37:Int) (x38:Int) (x45:(List TQ)) (x46:Int) (x47:Int) (x5:(List TQ)) (x8:TQ):Option R131:=if x47<x46 then(if 0≤x47 then(if x47<(x45.length:Int)then(if 0≤wrap64 (x7+x47)then(if wrap64 (x7+x47)<(x5.length:Int)then((c156 x8 (rdOf ((false,(⟨#[]⟩:ByteArray)),(⟨#[]⟩:ByteArray)) x45 x47)).bind fun r1=>((c74 (rdOf ((false,(⟨#[]⟩:ByteArray)),(⟨#[]⟩:ByteArray)) x5 (wrap64 (x7+x47))) (r1.1,r1.2)).bind fun r2=>(if 0≤wrap64 (x7+x47)then(if wrap64 (x7+x47)<(x5.length:Int)then(gl2 x1 x7 x36 x37 x38 x45 x46 (wrap64 (x47+1)) (x5.set (wrap64 (x7+x47):Int).toNat (r2.1,r2.2)) x8)else(none))else(none))))else(none))else(none))else(none))else(none))else(gl1 x1 x36 x37 (wrap64 (x38+1)) x5)
theorem e131l2 (s0:SbT ask131.bl) (s:k131l2.T):evPos E0 (orcOf (fes131 c74 c78 c122 c123 c156)) 71 an131 (loOf (les131 gl0 gl1 gl2)) (rk131 s0) (p131.getD 2 ⟨0,[], .skip⟩) (k131l2.mk' s)=B131l2 gl1 gl2 c74 c156 s.1.1 s.1.2.1 s.1.2.2.1 s.1.2.2.2.1 s.1.2.2.2.2.1 s.1.2.2.2.2.2.1 s.1.2.2.2.2.2.2.1 s.1.2.2.2.2.2.2.2.1 s.2.1 s.2.2.1:=by kernel_rfl
noncomputable def B131 (x0:(List TQ)) (x1:(List TQ)):Option R131:=if(x0.length:Int)=0 then(some ([]:List TQ))else(if(x1.length:Int)=0 then(some ([]:List TQ))else(if 0≤wrap64 ((wrap64 ((x0.length:Int)+(x1.length:Int)))-1)then(if wrap64 ((wrap64 ((x0.length:Int)+(x1.length:Int)))-1)≤wrap64 ((wrap64 ((x0.length:Int)+(x1.length:Int)))-1)then(if(wrap64 ((wrap64 ((x0.length:Int)+(x1.length:Int)))-1):Int).toNat≤7036874417766 then(gl0 x0 x1 ((List.replicate (wrap64 ((wrap64 ((x0.length:Int)+(x1.length:Int)))-1):Int).toNat ((false,(⟨#[]⟩:ByteArray)),(⟨#[]⟩:ByteArray))).length:Int) 0 (List.replicate (wrap64 ((wrap64 ((x0.length:Int)+(x1.length:Int)))-1):Int).toNat ((false,(⟨#[]⟩:ByteArray)),(⟨#[]⟩:ByteArray))))else(none))else(none))else(none)))
theorem e131 (s:ask131.T):evFn E0 (orcOf (fes131 c74 c78 c122 c123 c156)) an131 (loOf (les131 gl0 gl1 gl2)) 71 cd131 Tryz.f131.results.toList rm131 (ask131.mk' s) (decW rsk131 dec131)=B131 gl0 s.1.1 s.1.2.1:=by kernel_rfl
end
noncomputable def an247n:Ann:=⟨[],[],[]⟩
noncomputable def cd247n:Code:=(Tryz.f247.body).getD .skip
noncomputable def rm247n:List RM:=[.own (.ag (.pr (.ag (.pr .bo .st)) .st))]
noncomputable def les247n:List (LoE R247n):=[]
noncomputable def fes247n:List FE:=[]
noncomputable def B247n (x0:(List TQ)):Option R247n:=some ([]:List TQ)
theorem e247n (s:ask247n.T):evFn E0 (orcOf (fes247n)) an247n (loOf (les247n)) 8 cd247n Tryz.f247.results.toList rm247n (ask247n.mk' s) (decW rsk247n dec247n)=B247n s.1.1:=by kernel_rfl
noncomputable def an247m:Ann:=⟨[],[],[]⟩
noncomputable def cd247m:Code:=(Tryz.f247.body).getD .skip
noncomputable def rm247m:List RM:=[.own (.ag (.pr (.ag (.pr .bo .st)) .st))]
noncomputable def les247m:List (LoE R247m):=[]
noncomputable def fes247m:List FE:=[]
noncomputable def B247m (x0:(List TQ)):Option R247m:=if(([]:List TQ).length+x0.length)*40≤140737488355328 then(some (([]:List TQ)++x0))else(none)
theorem e247m (s:ask247m.T):evFn E0 (orcOf (fes247m)) an247m (loOf (les247m)) 8 cd247m Tryz.f247.results.toList rm247m (ask247m.mk' s) (decW rsk247m dec247m)=B247m s.1.1:=by kernel_rfl
noncomputable def an212:Ann:=⟨[(7,[(0, .any),(1, .any),(6, .any),(7, .any),(8, .any),(30, .any),(31, .any)]),(13,[(1, .any),(6, .any),(7, .any),(8, .any),(10, .any),(11, .any)]),(19,[(1, .any),(6, .any),(7, .any),(8, .any),(10, .any),(11, .any),(12, .any),(69, .any),(70, .any)])],[],[]⟩
noncomputable def cd212:Code:=(Tryz.f212.body).getD .skip
noncomputable def p212:List Pos:=posns an212 [] cd212
noncomputable def rm212:List RM:=[.d (.li (.ag (.pr (.ag (.pr .bo .st)) .st))), .d (.li (.ag (.pr (.ag (.pr .bo .st)) .st)))]
noncomputable def rk212 (s0:SbT ask212.bl):KX R212:=retK E0 Tryz.f212.results.toList rm212 (mkB ask212.bl s0) (decW rsk212 dec212)
noncomputable def k212l0:Sk:=⟨[(0, .d (.li (.ag (.pr (.ag (.pr .bo .st)) .st)))),(1, .d (.li (.ag (.pr (.ag (.pr .bo .st)) .st)))),(6, .f (.a (.ref 6))),(7, .d (.it .i64)),(8, .f (.a (.ref 8))),(30, .d (.it .i64)),(31, .d (.it .i64))],[(6, .own (.ag (.pr (.ag (.pr .bo .st)) .st)) true),(8, .own (.ag (.pr (.ag (.pr .bo .st)) .st)) true)]⟩
noncomputable def k212l1:Sk:=⟨[(1, .d (.li (.ag (.pr (.ag (.pr .bo .st)) .st)))),(6, .f (.a (.ref 6))),(7, .d (.it .i64)),(8, .f (.a (.ref 8))),(10, .f (.a (.ptr 10 0 []))),(11, .d (.it .i64))],[(6, .own (.ag (.pr (.ag (.pr .bo .st)) .st)) true),(8, .own (.ag (.pr (.ag (.pr .bo .st)) .st)) true),(10, .cell (.ag (.pr (.ag (.pr .bo .st)) .st)) true)]⟩
noncomputable def k212l2:Sk:=⟨[(1, .d (.li (.ag (.pr (.ag (.pr .bo .st)) .st)))),(6, .f (.a (.ref 6))),(7, .d (.it .i64)),(8, .f (.a (.ref 8))),(10, .f (.a (.ptr 10 0 []))),(11, .d (.it .i64)),(12, .f (.a (.ptr 12 0 []))),(69, .d (.it .i64)),(70, .d (.it .i64))],[(6, .own (.ag (.pr (.ag (.pr .bo .st)) .st)) true),(8, .own (.ag (.pr (.ag (.pr .bo .st)) .st)) true),(10, .cell (.ag (.pr (.ag (.pr .bo .st)) .st)) true),(12, .cell (.ag (.pr (.ag (.pr .bo .st)) .st)) true)]⟩
noncomputable def les212 (gl0:(List TQ)→(List TQ)→Int→Int→Int→(List TQ)→(List TQ)→Option R212) (gl1:(List TQ)→Int→Int→(List TQ)→(List TQ)→TQ→Option R212) (gl2:(List TQ)→Int→Int→Int→Int→(List TQ)→(List TQ)→TQ→TQ→Option R212):List (LoE R212):=[⟨7,k212l0,fun s=>gl0 s.1.1 s.1.2.1 s.1.2.2.1 s.1.2.2.2.1 s.1.2.2.2.2.1 s.2.1 s.2.2.1⟩,⟨13,k212l1,fun s=>gl1 s.1.1 s.1.2.1 s.1.2.2.1 s.2.1 s.2.2.1 s.2.2.2.1⟩,⟨19,k212l2,fun s=>gl2 s.1.1 s.1.2.1 s.1.2.2.1 s.1.2.2.2.1 s.1.2.2.2.2.1 s.2.1 s.2.2.1 s.2.2.2.1 s.2.2.2.2.1⟩]
noncomputable def fes212 (c75:TQ→TQ→Option R75) (c78:TQ→Option R78) (c122:Int→Option R122) (c123:(List TQ)→Option R123) (c156:TQ→TQ→Option R156) (c165:TQ→Option R165) (c247:(List TQ)→Option R247):List FE:=[(fe75 c75),(fe78 c78),(fe122 c122),(fe123 c123),(fe156 c156),(fe165 c165),(fe247 c247)]
section
variable (gl0:(List TQ)→(List TQ)→Int→Int→Int→(List TQ)→(List TQ)→Option R212) (gl1:(List TQ)→Int→Int→(List TQ)→(List TQ)→TQ→Option R212) (gl2:(List TQ)→Int→Int→Int→Int→(List TQ)→(List TQ)→TQ→TQ→Option R212) (c75:TQ→TQ→Option R75) (c78:TQ→Option R78) (c122:Int→Option R122) (c123:(List TQ)→Option R123) (c156:TQ→TQ→Option R156) (c165:TQ→Option R165) (c247:(List TQ)→Option R247)
noncomputable def B212l0 (x0:(List TQ)) (x1:(List TQ)) (x7:Int) (x30:Int) (x31:Int) (x6:(List TQ)) (x8:(List TQ)):Option R212:=if x31<x30 then((c122 0).bind fun r1=>(if 0≤x31 then(if x31<(x8.length:Int)then(gl0 x0 x1 x7 x30 (wrap64 (x31+1)) x6 (x8.set (x31:Int).toNat (r1.1,r1.2)))else(none))else(none)))else(if 0≤wrap64 (x7-1)then(if wrap64 (x7-1)<(x1.length:Int)then((c165 (rdOf ((false,(⟨#[]⟩:ByteArray)),(⟨#[]⟩:ByteArray)) x1 (wrap64 (x7-1)))).bind fun r2=>(gl1 x1 x7 (wrap64 ((x0.length:Int)-x7)) x6 x8 (r2.1,r2.2)))else(none))else(none))
theorem e212l0 (s0:SbT ask212.bl) (s:k212l0.T):evPos E0 (orcOf (fes212 c75 c78 c122 c123 c156 c165 c247)) 99 an212 (loOf (les212 gl0 gl1 gl2)) (rk212 s0) (p212.getD 0 ⟨0,[], .skip⟩) (k212l0.mk' s)=B212l0 gl0 gl1 c122 c165 s.1.1 s.1.2.1 s.1.2.2.1 s.1.2.2.2.1 s.1.2.2.2.2.1 s.2.1 s.2.2.1:=by kernel_rfl
noncomputable def B212l1 (x1:(List TQ)) (x7:Int) (x11:Int) (x6:(List TQ)) (x8:(List TQ)) (x10:TQ):Option R212:=if x11≥0 then(if 0≤wrap64 ((wrap64 (x11+x7))-1)then(if wrap64 ((wrap64 (x11+x7))-1)<(x6.length:Int)then((c156 (rdOf ((false,(⟨#[]⟩:ByteArray)),(⟨#[]⟩:ByteArray)) x6 (wrap64 ((wrap64 (x11+x7))-1))) x10).bind fun r1=>(if 0≤x11 then(if x11<(x8.length:Int)then((c78 (r1.1,r1.2)).bind fun r2=>(cnd (r2) (gl1 x1 x7 (wrap64 (x11-1)) x6 (x8.set (x11:Int).toNat (r1.1,r1.2)) x10) (gl2 x1 x7 x11 (x1.length:Int) 0 x6 (x8.set (x11:Int).toNat (r1.1,r1.2)) x10 (r1.1,r1.2))))else(none))else(none)))else(none))else(none))else((c123 x8).bind fun r3=>(if(0:Int)≤0 then(if 0≤wrap64 (x7-1)then(if wrap64 (x7-1)≤(x6.length:Int)then(if(x6.length:Int)≤(x6.length:Int)then((c123 (slice_ x6 0 (wrap64 (x7-1)))).bind fun r4=>(some (r3,r4)))else(none))else(none))else(none))else(none)))
theorem e212l1 (s0:SbT ask212.bl) (s:k212l1.T):evPos E0 (orcOf (fes212 c75 c78 c122 c123 c156 c165 c247)) 99 an212 (loOf (les212 gl0 gl1 gl2)) (rk212 s0) (p212.getD 1 ⟨0,[], .skip⟩) (k212l1.mk' s)=B212l1 gl1 gl2 c78 c123 c156 s.1.1 s.1.2.1 s.1.2.2.1 s.2.1 s.2.2.1 s.2.2.2.1:=by kernel_rfl
noncomputable def B212l2 (x1:(List TQ)) (x7:Int) (x11:Int) (x69:Int) (x70:Int) (x6:(List TQ)) (x8:(List TQ)) (x10:TQ) (x12:TQ):Option R212:=if x70<x69 then(if 0≤wrap64 (x11+x70)then(if wrap64 (x11+x70)<(x6.length:Int)then(if 0≤x70 then(if x70<(x1.length:Int)then((c156 x12 (rdOf ((false,(⟨#[]⟩:ByteArray)),(⟨#[]⟩:ByteArray)) x1 x70)).bind fun r1=>((c75 (rdOf ((false,(⟨#[]⟩:ByteArray)),(⟨#[]⟩:ByteArray)) x6 (wrap64 (x11+x70))) (r1.1,r1.2)).bind fun r2=>(if 0≤wrap64 (x11+x70)then(if wrap64 (x11+x70)<(x6.length:Int)then(gl2 x1 x7 x11 x69 (wrap64 (x70+1)) (x6.set (wrap64 (x11+x70):Int).toNat (r2.1,r2.2)) x8 x10 x12)else(none))else(none))))else(none))else(none))else(none))else(none))else(gl1 x1 x7 (wrap64 (x11-1)) x6 x8 x10)
theorem e212l2 (s0:SbT ask212.bl) (s:k212l2.T):evPos E0 (orcOf (fes212 c75 c78 c122 c123 c156 c165 c247)) 99 an212 (loOf (les212 gl0 gl1 gl2)) (rk212 s0) (p212.getD 2 ⟨0,[], .skip⟩) (k212l2.mk' s)=B212l2 gl1 gl2 c75 c156 s.1.1 s.1.2.1 s.1.2.2.1 s.1.2.2.2.1 s.1.2.2.2.2.1 s.2.1 s.2.2.1 s.2.2.2.1 s.2.2.2.2.1:=by kernel_rfl
noncomputable def B212 (x0:(List TQ)) (x1:(List TQ)):Option R212:=(c247 x0).bind fun r1=>(if(x0.length:Int)<(x1.length:Int)then(some (([]:List TQ),r1))else(if 0≤wrap64 ((wrap64 ((x0.length:Int)-(x1.length:Int)))+1)then(if wrap64 ((wrap64 ((x0.length:Int)-(x1.length:Int)))+1)≤wrap64 ((wrap64 ((x0.length:Int)-(x1.length:Int)))+1)then(if(wrap64 ((wrap64 ((x0.length:Int)-(x1.length:Int)))+1):Int).toNat≤7036874417766 then(gl0 x0 x1 (x1.length:Int) ((List.replicate (wrap64 ((wrap64 ((x0.length:Int)-(x1.length:Int)))+1):Int).toNat ((false,(⟨#[]⟩:ByteArray)),(⟨#[]⟩:ByteArray))).length:Int) 0 r1 (List.replicate (wrap64 ((wrap64 ((x0.length:Int)-(x1.length:Int)))+1):Int).toNat ((false,(⟨#[]⟩:ByteArray)),(⟨#[]⟩:ByteArray))))else(none))else(none))else(none)))
theorem e212 (s:ask212.T):evFn E0 (orcOf (fes212 c75 c78 c122 c123 c156 c165 c247)) an212 (loOf (les212 gl0 gl1 gl2)) 99 cd212 Tryz.f212.results.toList rm212 (ask212.mk' s) (decW rsk212 dec212)=B212 gl0 c247 s.1.1 s.1.2.1:=by kernel_rfl
end
noncomputable def an208:Ann:=⟨[],[],[]⟩
noncomputable def cd208:Code:=(Tryz.f208.body).getD .skip
noncomputable def rm208:List RM:=[.d (.li (.ag (.pr (.ag (.pr .bo .st)) .st)))]
noncomputable def les208:List (LoE R208):=[]
noncomputable def fes208 (c212:(List TQ)→(List TQ)→Option R212):List FE:=[(fe212 c212)]
section
variable (c212:(List TQ)→(List TQ)→Option R212)
noncomputable def B208 (x0:(List TQ)) (x1:(List TQ)):Option R208:=(c212 x1 x0).bind fun r1=>(some r1.2)
theorem e208 (s:ask208.T):evFn E0 (orcOf (fes208 c212)) an208 (loOf (les208)) 14 cd208 Tryz.f208.results.toList rm208 (ask208.mk' s) (decW rsk208 dec208)=B208 c212 s.1.1 s.1.2.1:=by kernel_rfl
end
noncomputable def an207:Ann:=⟨[],[],[]⟩
noncomputable def cd207:Code:=(Tryz.f207.body).getD .skip
noncomputable def rm207:List RM:=[.d (.li (.ag (.pr (.ag (.pr .bo .st)) .st)))]
noncomputable def les207:List (LoE R207):=[]
noncomputable def fes207 (c131:(List TQ)→(List TQ)→Option R131) (c208:(List TQ)→(List TQ)→Option R208):List FE:=[(fe131 c131),(fe208 c208)]
section
variable (c131:(List TQ)→(List TQ)→Option R131) (c208:(List TQ)→(List TQ)→Option R208)
noncomputable def B207 (x0:(List TQ)) (x1:(List TQ)) (x2:(List TQ)):Option R207:=(c131 x1 x2).bind fun r1=>((c208 x0 r1).bind fun r2=>(some r2))
theorem e207 (s:ask207.T):evFn E0 (orcOf (fes207 c131 c208)) an207 (loOf (les207)) 12 cd207 Tryz.f207.results.toList rm207 (ask207.mk' s) (decW rsk207 dec207)=B207 c131 c208 s.1.1 s.1.2.1 s.1.2.2.1:=by kernel_rfl
end
noncomputable def an120:Ann:=⟨[(3,[(0, .any),(1, .any),(2, .any),(7, .val (.li (.ag (.pr (.ag (.pr .bo .st)) .st)))),(8, .any)])],[],[]⟩
noncomputable def cd120:Code:=(Tryz.f120.body).getD .skip
noncomputable def p120:List Pos:=posns an120 [] cd120
noncomputable def rm120:List RM:=[.d (.li (.ag (.pr (.ag (.pr .bo .st)) .st)))]
noncomputable def rk120 (s0:SbT ask120.bl):KX R120:=retK E0 Tryz.f120.results.toList rm120 (mkB ask120.bl s0) (decW rsk120 dec120)
noncomputable def k120l0:Sk:=⟨[(0, .d (.li (.ag (.pr (.ag (.pr .bo .st)) .st)))),(1, .d (.li (.ag (.pr (.ag (.pr .bo .st)) .st)))),(2, .d (.li (.ag (.pr (.ag (.pr .bo .st)) .st)))),(7, .d (.li (.ag (.pr (.ag (.pr .bo .st)) .st)))),(8, .d (.it .i64))],[]⟩
noncomputable def les120 (gl0:(List TQ)→(List TQ)→(List TQ)→(List TQ)→Int→Option R120):List (LoE R120):=[⟨3,k120l0,fun s=>gl0 s.1.1 s.1.2.1 s.1.2.2.1 s.1.2.2.2.1 s.1.2.2.2.2.1⟩]
noncomputable def fes120 (c123:(List TQ)→Option R123) (c206:(List TQ)→(List TQ)→Option R206) (c207:(List TQ)→(List TQ)→(List TQ)→Option R207) (c208:(List TQ)→(List TQ)→Option R208):List FE:=[(fe123 c123),(fe206 c206),(fe207 c207),(fe208 c208)]
section
variable (gl0:(List TQ)→(List TQ)→(List TQ)→(List TQ)→Int→Option R120) (c123:(List TQ)→Option R123) (c206:(List TQ)→(List TQ)→Option R206) (c207:(List TQ)→(List TQ)→(List TQ)→Option R207) (c208:(List TQ)→(List TQ)→Option R208)
noncomputable def B120l0 (x0:(List TQ)) (x1:(List TQ)) (x2:(List TQ)) (x7:(List TQ)) (x8:Int):Option R120:=if x8≥0 then((c207 x0 x7 x2).bind fun r1=>(if 0≤x8 then(if x8<(x1.length:Int)then((c123 ([rdOf ((false,(⟨#[]⟩:ByteArray)),(⟨#[]⟩:ByteArray)) x1 x8]:List TQ)).bind fun r2=>((c206 r1 r2).bind fun r3=>(gl0 x0 x1 x2 r3 (wrap64 (x8-1)))))else(none))else(none)))else((c208 x0 x7).bind fun r4=>(some r4))
theorem e120l0 (s0:SbT ask120.bl) (s:k120l0.T):evPos E0 (orcOf (fes120 c123 c206 c207 c208)) 30 an120 (loOf (les120 gl0)) (rk120 s0) (p120.getD 0 ⟨0,[], .skip⟩) (k120l0.mk' s)=B120l0 gl0 c123 c206 c207 c208 s.1.1 s.1.2.1 s.1.2.2.1 s.1.2.2.2.1 s.1.2.2.2.2.1:=by kernel_rfl
noncomputable def B120 (x0:(List TQ)) (x1:(List TQ)) (x2:(List TQ)):Option R120:=gl0 x0 x1 x2 ([]:List TQ) (wrap64 ((x1.length:Int)-1))
theorem e120 (s:ask120.T):evFn E0 (orcOf (fes120 c123 c206 c207 c208)) an120 (loOf (les120 gl0)) 30 cd120 Tryz.f120.results.toList rm120 (ask120.mk' s) (decW rsk120 dec120)=B120 gl0 s.1.1 s.1.2.1 s.1.2.2.1:=by kernel_rfl
end
noncomputable def an209:Ann:=⟨[],[],[]⟩
noncomputable def cd209:Code:=(Tryz.f209.body).getD .skip
noncomputable def rm209:List RM:=[.d (.it .i64)]
noncomputable def les209:List (LoE R209):=[]
noncomputable def fes209:List FE:=[]
noncomputable def B209 (x0:Int) (x1:Int):Option R209:=if x1=0 then(none)else(if Int.tmod x0 x1<0 then(some (wrap64 ((Int.tmod x0 x1)+x1)))else(some (Int.tmod x0 x1)))
theorem e209 (s:ask209.T):evFn E0 (orcOf (fes209)) an209 (loOf (les209)) 14 cd209 Tryz.f209.results.toList rm209 (ask209.mk' s) (decW rsk209 dec209)=B209 s.1.1 s.1.2.1:=by kernel_rfl
noncomputable def an121:Ann:=⟨[(3,[(0, .any),(5, .any),(13, .any),(14, .any)])],[],[]⟩
noncomputable def cd121:Code:=(Tryz.f121.body).getD .skip
noncomputable def p121:List Pos:=posns an121 [] cd121
noncomputable def rm121:List RM:=[.d (.li (.ag (.pr (.ag (.pr .bo .st)) .st)))]
noncomputable def rk121 (s0:SbT ask121.bl):KX R121:=retK E0 Tryz.f121.results.toList rm121 (mkB ask121.bl s0) (decW rsk121 dec121)
noncomputable def k121l0:Sk:=⟨[(0, .d (.it .i64)),(5, .f (.a (.ref 5))),(13, .d (.it .i64)),(14, .d (.it .i64))],[(5, .own (.ag (.pr (.ag (.pr .bo .st)) .st)) true)]⟩
noncomputable def les121 (gl0:Int→Int→Int→(List TQ)→Option R121):List (LoE R121):=[⟨3,k121l0,fun s=>gl0 s.1.1 s.1.2.1 s.1.2.2.1 s.2.1⟩]
noncomputable def fes121 (c117:Int→Option R117) (c122:Int→Option R122) (c208:(List TQ)→(List TQ)→Option R208) (c209:Int→Int→Option R209):List FE:=[(fe117 c117),(fe122 c122),(fe208 c208),(fe209 c209)]
section
variable (gl0:Int→Int→Int→(List TQ)→Option R121) (c117:Int→Option R117) (c122:Int→Option R122) (c208:(List TQ)→(List TQ)→Option R208) (c209:Int→Int→Option R209)
noncomputable def B121l0 (x0:Int) (x13:Int) (x14:Int) (x5:(List TQ)):Option R121:=if x14<x13 then((c122 0).bind fun r1=>(if 0≤x14 then(if x14<(x5.length:Int)then(gl0 x0 x13 (wrap64 (x14+1)) (x5.set (x14:Int).toNat (r1.1,r1.2)))else(none))else(none)))else((c122 1).bind fun r2=>(if 0≤wrap64 ((x5.length:Int)-1)then(if wrap64 ((x5.length:Int)-1)<(x5.length:Int)then((c117 x0).bind fun r3=>((c208 r3 (x5.set (wrap64 ((x5.length:Int)-1):Int).toNat (r2.1,r2.2))).bind fun r4=>(some r4)))else(none))else(none)))
theorem e121l0 (s0:SbT ask121.bl) (s:k121l0.T):evPos E0 (orcOf (fes121 c117 c122 c208 c209)) 33 an121 (loOf (les121 gl0)) (rk121 s0) (p121.getD 0 ⟨0,[], .skip⟩) (k121l0.mk' s)=B121l0 gl0 c117 c122 c208 s.1.1 s.1.2.1 s.1.2.2.1 s.2.1:=by kernel_rfl
noncomputable def B121 (x0:Int) (x1:Int):Option R121:=(c209 x1 x0).bind fun r1=>(if 0≤wrap64 (r1+1)then(if wrap64 (r1+1)≤wrap64 (r1+1)then(if(wrap64 (r1+1):Int).toNat≤7036874417766 then(gl0 x0 ((List.replicate (wrap64 (r1+1):Int).toNat ((false,(⟨#[]⟩:ByteArray)),(⟨#[]⟩:ByteArray))).length:Int) 0 (List.replicate (wrap64 (r1+1):Int).toNat ((false,(⟨#[]⟩:ByteArray)),(⟨#[]⟩:ByteArray))))else(none))else(none))else(none))
theorem e121 (s:ask121.T):evFn E0 (orcOf (fes121 c117 c122 c208 c209)) an121 (loOf (les121 gl0)) 33 cd121 Tryz.f121.results.toList rm121 (ask121.mk' s) (decW rsk121 dec121)=B121 gl0 c209 s.1.1 s.1.2.1:=by kernel_rfl
end
noncomputable def an39:Ann:=⟨[],[],[]⟩
noncomputable def cd39:Code:=(Tryz.f39.body).getD .skip
noncomputable def rm39:List RM:=[.d (.li (.ag (.pr (.ag (.pr .bo .st)) .st))), .d (.it .i64)]
noncomputable def les39:List (LoE R39):=[]
noncomputable def fes39 (c115:Int→(List Int)→Option R115) (c116:Int→(List Int)→Option R116) (c117:Int→Option R117) (c118:(List TQ)→(List TQ)→Option R118) (c119:(List TQ)→Option R119) (c120:(List TQ)→(List TQ)→(List TQ)→Option R120) (c121:Int→Int→Option R121):List FE:=[(fe115 c115),(fe116 c116),(fe117 c117),(fe118 c118),(fe119 c119),(fe120 c120),(fe121 c121)]
section
variable (c115:Int→(List Int)→Option R115) (c116:Int→(List Int)→Option R116) (c117:Int→Option R117) (c118:(List TQ)→(List TQ)→Option R118) (c119:(List TQ)→Option R119) (c120:(List TQ)→(List TQ)→(List TQ)→Option R120) (c121:Int→Int→Option R121)
noncomputable def B39 (x0:Int) (x1:Int) (x2:(List TQ)):Option R39:=(c115 24 ([x0]:List Int)).bind fun r1=>(if r1≠0 then(some (([]:List TQ),r1))else((c116 x0 ([x1]:List Int)).bind fun r2=>(if r2≠0 then(some (([]:List TQ),r2))else((c117 x0).bind fun r3=>((c118 r3 x2).bind fun r4=>(if r4≠0 then(some (([]:List TQ),r4))else((c121 x0 x1).bind fun r5=>((c120 r3 x2 r5).bind fun r6=>((c119 r6).bind fun r7=>(some (r7.1,r7.2)))))))))))
theorem e39 (s:ask39.T):evFn E0 (orcOf (fes39 c115 c116 c117 c118 c119 c120 c121)) an39 (loOf (les39)) 43 cd39 Tryz.f39.results.toList rm39 (ask39.mk' s) (decW rsk39 dec39)=B39 c115 c116 c117 c118 c119 c120 c121 s.1.1 s.1.2.1 s.1.2.2.1:=by kernel_rfl
end
noncomputable def an5:Ann:=⟨[(9,[(5, .any),(8, .any),(10, .any),(61, .any),(62, .any),(63, .any)])],[],[]⟩
noncomputable def cd5:Code:=(Tryz.f5.body).getD .skip
noncomputable def p5:List Pos:=posns an5 [] cd5
noncomputable def rm5:List RM:=[.d .bo]
noncomputable def k5l0:Sk:=⟨[(5, .d (.it .i64)),(8, .d (.it .i64)),(10, .d (.li (.li (.ag (.pr (.ag (.pr .bo .st)) .st))))),(61, .d (.li (.li (.ag (.pr (.ag (.pr .bo .st)) .st))))),(62, .d (.it .i64)),(63, .d (.it .i64))],[]⟩
noncomputable def les5 (gl0:Int→Int→(List (List TQ))→(List (List TQ))→Int→Int→Option R5):List (LoE R5):=[⟨9,k5l0,fun s=>gl0 s.1.1 s.1.2.1 s.1.2.2.1 s.1.2.2.2.1 s.1.2.2.2.2.1 s.1.2.2.2.2.2.1⟩]
noncomputable def fes5 (c8:Option R8) (c35:Int→Option R35) (c36:Int→Option R36) (c37:Int→Int→Option R37) (c38:Int→Int→Option R38) (c39:Int→Int→(List TQ)→Option R39) (c40:(List TQ)→(List TQ)→Option R40):List FE:=[(fe8 c8),(fe35 c35),(fe36 c36),(fe37 c37),(fe38 c38),(fe39 c39),(fe40 c40)]
section
variable (gl0:Int→Int→(List (List TQ))→(List (List TQ))→Int→Int→Option R5) (c8:Option R8) (c35:Int→Option R35) (c36:Int→Option R36) (c37:Int→Int→Option R37) (c38:Int→Int→Option R38) (c39:Int→Int→(List TQ)→Option R39) (c40:(List TQ)→(List TQ)→Option R40)
noncomputable def B5 (x0:Int) (x1:Int):Option R5:=if(5:Int)=0 then(none)else(if 0≤Int.tmod (wrap64 (x0)) 5 then(if Int.tmod (wrap64 (x0)) 5<5 then((c35 (wrap64 ((rd ([3,5,7,11,13]:List Int) (Int.tmod (wrap64 (x0)) 5))-1))).bind fun r1=>(if(r1.length:Int)=0 then(none)else(if 0≤Int.tmod (wrap64 (x1)) (r1.length:Int)then(if Int.tmod (wrap64 (x1)) (r1.length:Int)<(r1.length:Int)then((c36 (rd ([3,5,7,11,13]:List Int) (Int.tmod (wrap64 (x0)) 5))).bind fun r2=>((c37 (rd ([3,5,7,11,13]:List Int) (Int.tmod (wrap64 (x0)) 5)) (rd r1 (Int.tmod (wrap64 (x1)) (r1.length:Int)))).bind fun r3=>(if r3.2≠0 then(some false)else((c38 (rd ([3,5,7,11,13]:List Int) (Int.tmod (wrap64 (x0)) 5)) (rd r1 (Int.tmod (wrap64 (x1)) (r1.length:Int)))).bind fun r4=>(if r4≠0 then(some false)else(if rd r1 (Int.tmod (wrap64 (x1)) (r1.length:Int))=0 then(none)else(if(r3.1.length:Int)≠wrap64 (Int.tdiv (wrap64 ((rd ([3,5,7,11,13]:List Int) (Int.tmod (wrap64 (x0)) 5))-1)) (rd r1 (Int.tmod (wrap64 (x1)) (r1.length:Int))))then(some false)else(gl0 (rd ([3,5,7,11,13]:List Int) (Int.tmod (wrap64 (x0)) 5)) r2.1 r3.1 r3.1 (r3.1.length:Int) 0))))))))else(none))else(none))))else(none))else(none))
theorem e5 (s:ask5.T):evFn E0 (orcOf (fes5 c8 c35 c36 c37 c38 c39 c40)) an5 (loOf (les5 gl0)) 92 cd5 Tryz.f5.results.toList rm5 (ask5.mk' s) (decW rsk5 dec5)=B5 gl0 c35 c36 c37 c38 s.1.1 s.1.2.1:=by kernel_rfl
end
noncomputable def an250:Ann:=⟨[],[],[]⟩
noncomputable def cd250:Code:=(Tryz.f250.body).getD .skip
noncomputable def rm250:List RM:=[.d (.it .i64)]
noncomputable def les250:List (LoE R250):=[]
noncomputable def fes250:List FE:=[]
noncomputable def B250 (x0:Int) (x1:Int):Option R250:=if x1=0 then(none)else(if Int.tmod x0 x1<0 then(some (wrap64 ((Int.tmod x0 x1)+x1)))else(some (Int.tmod x0 x1)))
theorem e250 (s:ask250.T):evFn E0 (orcOf (fes250)) an250 (loOf (les250)) 14 cd250 Tryz.f250.results.toList rm250 (ask250.mk' s) (decW rsk250 dec250)=B250 s.1.1 s.1.2.1:=by kernel_rfl
noncomputable def an216:Ann:=⟨[(3,[(0, .any),(1, .any),(2, .any),(7, .any)])],[],[]⟩
noncomputable def cd216:Code:=(Tryz.f216.body).getD .skip
noncomputable def p216:List Pos:=posns an216 [] cd216
noncomputable def rm216:List RM:=[.d (.it .i64)]
noncomputable def rk216 (s0:SbT ask216.bl):KX R216:=retK E0 Tryz.f216.results.toList rm216 (mkB ask216.bl s0) (decW rsk216 dec216)
noncomputable def k216l0:Sk:=⟨[(0, .d (.it .i64)),(1, .d (.it .i64)),(2, .d (.it .i64)),(7, .d (.it .i64))],[]⟩
noncomputable def les216 (gl0:Int→Int→Int→Int→Option R216):List (LoE R216):=[⟨3,k216l0,fun s=>gl0 s.1.1 s.1.2.1 s.1.2.2.1 s.1.2.2.2.1⟩]
noncomputable def fes216 (c250:Int→Int→Option R250):List FE:=[(fe250 c250)]
section
variable (gl0:Int→Int→Int→Int→Option R216) (c250:Int→Int→Option R250)
noncomputable def B216l0 (x0:Int) (x1:Int) (x2:Int) (x7:Int):Option R216:=if x1>0 then(if Go.bits .and .i64 x1 1=1 then(if x2=0 then(none)else(if x2=0 then(none)else(if(0:Int)≤1 then(gl0 (Int.tmod (wrap64 (x0*x0)) x2) (x1/2) x2 (Int.tmod (wrap64 (x7*x0)) x2))else(none))))else(if x2=0 then(none)else(if(0:Int)≤1 then(gl0 (Int.tmod (wrap64 (x0*x0)) x2) (x1/2) x2 x7)else(none))))else(some x7)
theorem e216l0 (s0:SbT ask216.bl) (s:k216l0.T):evPos E0 (orcOf (fes216 c250)) 31 an216 (loOf (les216 gl0)) (rk216 s0) (p216.getD 0 ⟨0,[], .skip⟩) (k216l0.mk' s)=B216l0 gl0 s.1.1 s.1.2.1 s.1.2.2.1 s.1.2.2.2.1:=by kernel_rfl
noncomputable def B216 (x0:Int) (x1:Int) (x2:Int):Option R216:=if x2=0 then(none)else((c250 x0 x2).bind fun r1=>(gl0 r1 x1 x2 (Int.tmod 1 x2)))
theorem e216 (s:ask216.T):evFn E0 (orcOf (fes216 c250)) an216 (loOf (les216 gl0)) 31 cd216 Tryz.f216.results.toList rm216 (ask216.mk' s) (decW rsk216 dec216)=B216 gl0 c250 s.1.1 s.1.2.1 s.1.2.2.1:=by kernel_rfl
end
noncomputable def an135:Ann:=⟨[],[],[]⟩
noncomputable def cd135:Code:=(Tryz.f135.body).getD .skip
noncomputable def rm135:List RM:=[.d (.it .i64)]
noncomputable def les135:List (LoE R135):=[]
noncomputable def fes135 (c216:Int→Int→Int→Option R216):List FE:=[(fe216 c216)]
section
variable (c216:Int→Int→Int→Option R216)
noncomputable def B135 (x0:Int) (x1:Int):Option R135:=if(2:Int)=0 then(none)else((c216 x0 (wrap64 (Int.tdiv (wrap64 (x1-1)) 2)) x1).bind fun r1=>(if r1=0 then(some 0)else(if r1=1 then(some 1)else(some (-1)))))
theorem e135 (s:ask135.T):evFn E0 (orcOf (fes135 c216)) an135 (loOf (les135)) 15 cd135 Tryz.f135.results.toList rm135 (ask135.mk' s) (decW rsk135 dec135)=B135 c216 s.1.1 s.1.2.1:=by kernel_rfl
end
noncomputable def an47:Ann:=⟨[],[],[]⟩
noncomputable def cd47:Code:=(Tryz.f47.body).getD .skip
noncomputable def rm47:List RM:=[.d (.it .i64), .d (.it .i64)]
noncomputable def les47:List (LoE R47):=[]
noncomputable def fes47 (c133:(List Int)→Option R133) (c134:Int→Option R134) (c135:Int→Int→Option R135):List FE:=[(fe133 c133),(fe134 c134),(fe135 c135)]
section
variable (c133:(List Int)→Option R133) (c134:Int→Option R134) (c135:Int→Int→Option R135)
noncomputable def B47 (x0:Int) (x1:Int):Option R47:=(c133 ([x1]:List Int)).bind fun r1=>(cnd (r1) (some (0,3)) (if x1=2 then(some (0,7))else((c134 x1).bind fun r2=>(cnd ((!r2)) (some (0,7)) ((c135 x0 x1).bind fun r3=>(some (r3,0)))))))
theorem e47 (s:ask47.T):evFn E0 (orcOf (fes47 c133 c134 c135)) an47 (loOf (les47)) 19 cd47 Tryz.f47.results.toList rm47 (ask47.mk' s) (decW rsk47 dec47)=B47 c133 c134 c135 s.1.1 s.1.2.1:=by kernel_rfl
end
noncomputable def an126:Ann:=⟨[],[],[]⟩
noncomputable def cd126:Code:=(Tryz.f126.body).getD .skip
noncomputable def rm126:List RM:=[.d (.it .i64)]
noncomputable def les126:List (LoE R126):=[]
noncomputable def fes126 (c47:Int→Int→Option R47):List FE:=[(fe47 c47)]
section
variable (c47:Int→Int→Option R47)
noncomputable def B126 (x0:Int) (x1:Int):Option R126:=(c47 x0 x1).bind fun r1=>(some r1.1)
theorem e126 (s:ask126.T):evFn E0 (orcOf (fes126 c47)) an126 (loOf (les126)) 13 cd126 Tryz.f126.results.toList rm126 (ask126.mk' s) (decW rsk126 dec126)=B126 c47 s.1.1 s.1.2.1:=by kernel_rfl
end
noncomputable def an125GaussSum:Ann:=⟨[(4,[(1, .any),(5, .any),(6, .own (.ag (.pr (.ag (.pr .bo .st)) .st))),(13, .any),(14, .any)])],[],[]⟩
noncomputable def cd125GaussSum:Code:=(Tryz.f125.body).getD .skip
noncomputable def p125GaussSum:List Pos:=posns an125GaussSum [] cd125GaussSum
noncomputable def rm125GaussSum:List RM:=[.d (.li (.ag (.pr (.ag (.pr .bo .st)) .st)))]
noncomputable def rk125GaussSum (s0:SbT ask125GaussSum.bl):KX R125GaussSum:=retK E0 Tryz.f125.results.toList rm125GaussSum (mkB ask125GaussSum.bl s0) (decW rsk125GaussSum dec125GaussSum)
noncomputable def k125GaussSuml0:Sk:=⟨[(1, .cl 126 [(.it .i64)]),(5, .d (.it .i64)),(6, .f (.a (.ref 6))),(13, .d (.it .i64)),(14, .d (.it .i64))],[(6, .own (.ag (.pr (.ag (.pr .bo .st)) .st)) true)]⟩
noncomputable def les125GaussSum (gl0:(Int×Unit)→Int→Int→Int→(List TQ)→Option R125GaussSum):List (LoE R125GaussSum):=[⟨4,k125GaussSuml0,fun s=>gl0 s.1.1 s.1.2.1 s.1.2.2.1 s.1.2.2.2.1 s.2.1⟩]
noncomputable def fes125GaussSum (c122:Int→Option R122) (c123:(List TQ)→Option R123) (c126:Int→Int→Option R126):List FE:=[(fe122 c122),(fe123 c123),(fe126 c126)]
section
variable (gl0:(Int×Unit)→Int→Int→Int→(List TQ)→Option R125GaussSum) (c122:Int→Option R122) (c123:(List TQ)→Option R123) (c126:Int→Int→Option R126)
noncomputable def B125GaussSuml0 (x1:(Int×Unit)) (x5:Int) (x13:Int) (x14:Int) (x6:(List TQ)):Option R125GaussSum:=if x14<x13 then((c126 x14 x1.1).bind fun r1=>((c122 (wrap64 (r1-x5))).bind fun r2=>(if(x6.length+1)*40≤140737488355328 then(gl0 (x1.1,()) x5 x13 (wrap64 (x14+1)) (x6++([(r2.1,r2.2)]:List TQ)))else(none))))else((c123 x6).bind fun r3=>(some r3))
theorem e125GaussSuml0 (s0:SbT ask125GaussSum.bl) (s:k125GaussSuml0.T):evPos E0 (orcOf (fes125GaussSum c122 c123 c126)) 29 an125GaussSum (loOf (les125GaussSum gl0)) (rk125GaussSum s0) (p125GaussSum.getD 0 ⟨0,[], .skip⟩) (k125GaussSuml0.mk' s)=B125GaussSuml0 gl0 c122 c123 c126 s.1.1 s.1.2.1 s.1.2.2.1 s.1.2.2.2.1 s.2.1:=by kernel_rfl
noncomputable def B125GaussSum (x0:Int) (x1:(Int×Unit)):Option R125GaussSum:=(c126 (wrap64 (x0-1)) x1.1).bind fun r1=>(gl0 (x1.1,()) r1 (wrap64 (x0-1)) 0 ([]:List TQ))
theorem e125GaussSum (s:ask125GaussSum.T):evFn E0 (orcOf (fes125GaussSum c122 c123 c126)) an125GaussSum (loOf (les125GaussSum gl0)) 29 cd125GaussSum Tryz.f125.results.toList rm125GaussSum (ask125GaussSum.mk' s) (decW rsk125GaussSum dec125GaussSum)=B125GaussSum gl0 c126 s.1.1 s.1.2.1:=by kernel_rfl
end
noncomputable def an42:Ann:=⟨[],[],[]⟩
noncomputable def cd42:Code:=(Tryz.f42.body).getD .skip
noncomputable def rm42:List RM:=[.d (.li (.ag (.pr (.ag (.pr .bo .st)) .st))), .d (.it .i64)]
noncomputable def les42:List (LoE R42):=[]
noncomputable def fes42 (c124:Int→Option R124) (c125GaussSum:Int→(Int×Unit)→Option R125GaussSum):List FE:=[(fe124 c124),(fe125GaussSum c125GaussSum)]
section
variable (c124:Int→Option R124) (c125GaussSum:Int→(Int×Unit)→Option R125GaussSum)
noncomputable def B42 (x0:Int):Option R42:=(c124 x0).bind fun r1=>(if r1≠0 then(some (([]:List TQ),r1))else(if x0=2 then(some (([]:List TQ),7))else((c125GaussSum x0 (x0,())).bind fun r2=>(some (r2,0)))))
theorem e42 (s:ask42.T):evFn E0 (orcOf (fes42 c124 c125GaussSum)) an42 (loOf (les42)) 15 cd42 Tryz.f42.results.toList rm42 (ask42.mk' s) (decW rsk42 dec42)=B42 c124 c125GaussSum s.1.1:=by kernel_rfl
end
noncomputable def an127:Ann:=⟨[],[],[]⟩
noncomputable def cd127:Code:=(Tryz.f127.body).getD .skip
noncomputable def rm127:List RM:=[.d (.it .i64)]
noncomputable def les127:List (LoE R127):=[]
noncomputable def fes127:List FE:=[]
noncomputable def B127 (x0:Int):Option R127:=if(2:Int)=0 then(none)else(some (wrap64 (1-(wrap64 ((Int.tmod x0 2)*2)))))
theorem e127 (s:ask127.T):evFn E0 (orcOf (fes127)) an127 (loOf (les127)) 7 cd127 Tryz.f127.results.toList rm127 (ask127.mk' s) (decW rsk127 dec127)=B127 s.1.1:=by kernel_rfl
noncomputable def an44:Ann:=⟨[],[],[]⟩
noncomputable def cd44:Code:=(Tryz.f44.body).getD .skip
noncomputable def rm44:List RM:=[.d (.it .i64), .d (.it .i64)]
noncomputable def les44:List (LoE R44):=[]
noncomputable def fes44 (c100:(List Int)→Option R100) (c127:Int→Option R127):List FE:=[(fe100 c100),(fe127 c127)]
section
variable (c100:(List Int)→Option R100) (c127:Int→Option R127)
noncomputable def B44 (x0:Int):Option R44:=(c100 ([x0]:List Int)).bind fun r1=>(if r1≠0 then(some (0,r1))else(if(2:Int)=0 then(none)else((c127 (wrap64 (Int.tdiv (wrap64 (x0-1)) 2))).bind fun r2=>(some (wrap64 (x0*r2),0)))))
theorem e44 (s:ask44.T):evFn E0 (orcOf (fes44 c100 c127)) an44 (loOf (les44)) 17 cd44 Tryz.f44.results.toList rm44 (ask44.mk' s) (decW rsk44 dec44)=B44 c100 c127 s.1.1:=by kernel_rfl
end
noncomputable def an130:Ann:=⟨[],[],[]⟩
noncomputable def cd130:Code:=(Tryz.f130.body).getD .skip
noncomputable def rm130:List RM:=[.d (.li (.ag (.pr (.ag (.pr .bo .st)) .st)))]
noncomputable def les130:List (LoE R130):=[]
noncomputable def fes130 (c212:(List TQ)→(List TQ)→Option R212):List FE:=[(fe212 c212)]
section
variable (c212:(List TQ)→(List TQ)→Option R212)
noncomputable def B130 (x0:(List TQ)) (x1:(List TQ)):Option R130:=(c212 x1 x0).bind fun r1=>(some r1.2)
theorem e130 (s:ask130.T):evFn E0 (orcOf (fes130 c212)) an130 (loOf (les130)) 15 cd130 Tryz.f130.results.toList rm130 (ask130.mk' s) (decW rsk130 dec130)=B130 c212 s.1.1 s.1.2.1:=by kernel_rfl
end
noncomputable def an129:Ann:=⟨[],[],[]⟩
noncomputable def cd129:Code:=(Tryz.f129.body).getD .skip
noncomputable def rm129:List RM:=[.d (.li (.ag (.pr (.ag (.pr .bo .st)) .st))), .d (.it .i64)]
noncomputable def les129:List (LoE R129):=[]
noncomputable def fes129 (c130:(List TQ)→(List TQ)→Option R130) (c131:(List TQ)→(List TQ)→Option R131):List FE:=[(fe130 c130),(fe131 c131)]
section
variable (c130:(List TQ)→(List TQ)→Option R130) (c131:(List TQ)→(List TQ)→Option R131)
noncomputable def B129 (x0:(List TQ)) (x1:(List TQ)) (x2:(List TQ)):Option R129:=(c131 x1 x2).bind fun r1=>((c130 x0 r1).bind fun r2=>(some (r2,0)))
theorem e129 (s:ask129.T):evFn E0 (orcOf (fes129 c130 c131)) an129 (loOf (les129)) 10 cd129 Tryz.f129.results.toList rm129 (ask129.mk' s) (decW rsk129 dec129)=B129 c130 c131 s.1.1 s.1.2.1 s.1.2.2.1:=by kernel_rfl
end
noncomputable def an210:Ann:=⟨[(5,[(2, .any),(14, .any),(15, .any),(16, .any)])],[],[]⟩
noncomputable def cd210:Code:=(Tryz.f210.body).getD .skip
noncomputable def p210:List Pos:=posns an210 [] cd210
noncomputable def rm210:List RM:=[.d (.it .i64)]
noncomputable def rk210 (s0:SbT ask210.bl):KX R210:=retK E0 Tryz.f210.results.toList rm210 (mkB ask210.bl s0) (decW rsk210 dec210)
noncomputable def k210l0:Sk:=⟨[(2, .f (.a (.ptr 2 0 []))),(14, .d (.li (.li (.ag (.pr (.ag (.pr .bo .st)) .st))))),(15, .d (.it .i64)),(16, .d (.it .i64))],[(2, .cell (.ag (.li (.ag (.pr (.ag (.pr .bo .st)) .st)))) true)]⟩
noncomputable def les210 (gl0:(List (List TQ))→Int→Int→(List TQ)→Option R210):List (LoE R210):=[⟨5,k210l0,fun s=>gl0 s.1.1 s.1.2.1 s.1.2.2.1 s.2.1⟩]
noncomputable def fes210 (c118:(List TQ)→(List TQ)→Option R118) (c203:(List TQ)→Option R203):List FE:=[(fe118 c118),(fe203 c203)]
section
variable (gl0:(List (List TQ))→Int→Int→(List TQ)→Option R210) (c118:(List TQ)→(List TQ)→Option R118) (c203:(List TQ)→Option R203)
noncomputable def B210l0 (x14:(List (List TQ))) (x15:Int) (x16:Int) (x2:(List TQ)):Option R210:=if x16<x15 then(if 0≤x16 then(if x16<(x14.length:Int)then((c118 x2 (rdOf ([]:List TQ) x14 x16)).bind fun r1=>(if r1≠0 then(some r1)else(gl0 x14 x15 (wrap64 (x16+1)) x2)))else(none))else(none))else(some 0)
theorem e210l0 (s0:SbT ask210.bl) (s:k210l0.T):evPos E0 (orcOf (fes210 c118 c203)) 27 an210 (loOf (les210 gl0)) (rk210 s0) (p210.getD 0 ⟨0,[], .skip⟩) (k210l0.mk' s)=B210l0 gl0 c118 s.1.1 s.1.2.1 s.1.2.2.1 s.2.1:=by kernel_rfl
noncomputable def B210 (x0:(List TQ)) (x1:(List (List TQ))):Option R210:=(c203 x0).bind fun r1=>(if r1≠0 then(some r1)else(gl0 x1 (x1.length:Int) 0 x0))
theorem e210 (s:ask210.T):evFn E0 (orcOf (fes210 c118 c203)) an210 (loOf (les210 gl0)) 27 cd210 Tryz.f210.results.toList rm210 (ask210.mk' s) (decW rsk210 dec210)=B210 gl0 c203 s.1.1 s.1.2.1:=by kernel_rfl
end
noncomputable def an211:Ann:=⟨[],[],[]⟩
noncomputable def cd211:Code:=(Tryz.f211.body).getD .skip
noncomputable def rm211:List RM:=[.d (.li (.ag (.pr (.ag (.pr .bo .st)) .st))), .d (.it .i64)]
noncomputable def les211:List (LoE R211):=[]
noncomputable def fes211 (c241Large:(List TQ)→Option R241Large):List FE:=[(fe241Large c241Large)]
section
variable (c241Large:(List TQ)→Option R241Large)
noncomputable def B211 (x0:(List TQ)):Option R211:=(c241Large x0).bind fun r1=>(cnd (r1) (some (([]:List TQ),4)) (some (x0,0)))
theorem e211 (s:ask211.T):evFn E0 (orcOf (fes211 c241Large)) an211 (loOf (les211)) 7 cd211 Tryz.f211.results.toList rm211 (ask211.mk' s) (decW rsk211 dec211)=B211 c241Large s.1.1:=by kernel_rfl
end
noncomputable def an128Mul:Ann:=⟨[],[],[]⟩
noncomputable def cd128Mul:Code:=(Tryz.f128.body).getD .skip
noncomputable def rm128Mul:List RM:=[.d (.li (.ag (.pr (.ag (.pr .bo .st)) .st))), .d (.it .i64)]
noncomputable def les128Mul:List (LoE R128Mul):=[]
noncomputable def fes128Mul (c129:(List TQ)→(List TQ)→(List TQ)→Option R129) (c210:(List TQ)→(List (List TQ))→Option R210) (c211:(List TQ)→Option R211):List FE:=[(fe129 c129),(fe210 c210),(fe211 c211)]
section
variable (c129:(List TQ)→(List TQ)→(List TQ)→Option R129) (c210:(List TQ)→(List (List TQ))→Option R210) (c211:(List TQ)→Option R211)
noncomputable def B128Mul (x0:(List TQ)) (x1:((List TQ)×(List TQ)×(List TQ)×Unit)) (x2:(List (List TQ))):Option R128Mul:=(c210 x0 x2).bind fun r1=>(if r1≠0 then(some (([]:List TQ),r1))else((c129 x1.1 x1.2.1 x1.2.2.1).bind fun r2=>(if r2.2≠0 then(some (([]:List TQ),r2.2))else((c211 r2.1).bind fun r3=>(some (r3.1,r3.2))))))
theorem e128Mul (s:ask128Mul.T):evFn E0 (orcOf (fes128Mul c129 c210 c211)) an128Mul (loOf (les128Mul)) 29 cd128Mul Tryz.f128.results.toList rm128Mul (ask128Mul.mk' s) (decW rsk128Mul dec128Mul)=B128Mul c129 c210 c211 s.1.1 s.1.2.1 s.1.2.2.1:=by kernel_rfl
end
noncomputable def an45:Ann:=⟨[],[],[]⟩
noncomputable def cd45:Code:=(Tryz.f45.body).getD .skip
noncomputable def rm45:List RM:=[.d (.li (.ag (.pr (.ag (.pr .bo .st)) .st))), .d (.it .i64)]
noncomputable def les45:List (LoE R45):=[]
noncomputable def fes45 (c128Mul:(List TQ)→((List TQ)×(List TQ)×(List TQ)×Unit)→(List (List TQ))→Option R128Mul):List FE:=[(fe128Mul c128Mul)]
section
variable (c128Mul:(List TQ)→((List TQ)×(List TQ)×(List TQ)×Unit)→(List (List TQ))→Option R128Mul)
noncomputable def B45 (x0:(List TQ)) (x1:(List TQ)) (x2:(List TQ)):Option R45:=(c128Mul x0 (x0,x1,x2,()) ([x1,x2]:List (List TQ))).bind fun r1=>(some (r1.1,r1.2))
theorem e45 (s:ask45.T):evFn E0 (orcOf (fes45 c128Mul)) an45 (loOf (les45)) 16 cd45 Tryz.f45.results.toList rm45 (ask45.mk' s) (decW rsk45 dec45)=B45 c128Mul s.1.1 s.1.2.1 s.1.2.2.1:=by kernel_rfl
end
noncomputable def an48:Ann:=⟨[(3,[(3, .any),(5, .own (.ag (.pr (.ag (.pr .bo .st)) .st))),(8, .any),(9, .any),(10, .any)])],[],[]⟩
noncomputable def cd48:Code:=(Tryz.f48.body).getD .skip
noncomputable def p48:List Pos:=posns an48 [] cd48
noncomputable def rm48:List RM:=[.d (.li (.ag (.pr (.ag (.pr .bo .st)) .st)))]
noncomputable def rk48 (s0:SbT ask48.bl):KX R48:=retK E0 Tryz.f48.results.toList rm48 (mkB ask48.bl s0) (decW rsk48 dec48)
noncomputable def k48l0:Sk:=⟨[(3, .f (.a (.ptr 3 0 []))),(5, .f (.a (.ref 5))),(8, .d (.li (.ag (.pr (.ag (.pr .bo .st)) .st)))),(9, .d (.it .i64)),(10, .d (.it .i64))],[(3, .cell (.ag (.pr (.ag (.pr .bo .st)) .st)) true),(5, .own (.ag (.pr (.ag (.pr .bo .st)) .st)) true)]⟩
noncomputable def les48 (gl0:(List TQ)→Int→Int→TQ→(List TQ)→Option R48):List (LoE R48):=[⟨3,k48l0,fun s=>gl0 s.1.1 s.1.2.1 s.1.2.2.1 s.2.1 s.2.2.1⟩]
noncomputable def fes48 (c12:TQ→TQ→Option R12) (c132:(List TQ)→Option R132):List FE:=[(fe12 c12),(fe132 c132)]
section
variable (gl0:(List TQ)→Int→Int→TQ→(List TQ)→Option R48) (c12:TQ→TQ→Option R12) (c132:(List TQ)→Option R132)
noncomputable def B48l0 (x8:(List TQ)) (x9:Int) (x10:Int) (x3:TQ) (x5:(List TQ)):Option R48:=if x10<x9 then(if 0≤x10 then(if x10<(x8.length:Int)then((c12 (rdOf ((false,(⟨#[]⟩:ByteArray)),(⟨#[]⟩:ByteArray)) x8 x10) x3).bind fun r1=>(if(x5.length+1)*40≤140737488355328 then(gl0 x8 x9 (wrap64 (x10+1)) x3 (x5++([(r1.1,r1.2)]:List TQ)))else(none)))else(none))else(none))else((c132 x5).bind fun r2=>(some r2))
theorem e48l0 (s0:SbT ask48.bl) (s:k48l0.T):evPos E0 (orcOf (fes48 c12 c132)) 23 an48 (loOf (les48 gl0)) (rk48 s0) (p48.getD 0 ⟨0,[], .skip⟩) (k48l0.mk' s)=B48l0 gl0 c12 c132 s.1.1 s.1.2.1 s.1.2.2.1 s.2.1 s.2.2.1:=by kernel_rfl
noncomputable def B48 (x0:(List TQ)) (x1:TQ):Option R48:=gl0 x0 (x0.length:Int) 0 x1 ([]:List TQ)
theorem e48 (s:ask48.T):evFn E0 (orcOf (fes48 c12 c132)) an48 (loOf (les48 gl0)) 23 cd48 Tryz.f48.results.toList rm48 (ask48.mk' s) (decW rsk48 dec48)=B48 gl0 s.1.1 s.1.2.1:=by kernel_rfl
end
noncomputable def an6:Ann:=⟨[],[],[]⟩
noncomputable def cd6:Code:=(Tryz.f6.body).getD .skip
noncomputable def rm6:List RM:=[.d .bo]
noncomputable def les6:List (LoE R6):=[]
noncomputable def fes6 (c14:Int→Option R14) (c19:Option R19) (c20:Int→Option R20) (c39:Int→Int→(List TQ)→Option R39) (c40:(List TQ)→(List TQ)→Option R40) (c41:Int→Option R41) (c42:Int→Option R42) (c43:Int→Option R43) (c44:Int→Option R44) (c45:(List TQ)→(List TQ)→(List TQ)→Option R45) (c46:(List Int)→Option R46) (c47:Int→Int→Option R47) (c48:(List TQ)→TQ→Option R48):List FE:=[(fe14 c14),(fe19 c19),(fe20 c20),(fe39 c39),(fe40 c40),(fe41 c41),(fe42 c42),(fe43 c43),(fe44 c44),(fe45 c45),(fe46 c46),(fe47 c47),(fe48 c48)]
section
variable (c14:Int→Option R14) (c19:Option R19) (c20:Int→Option R20) (c39:Int→Int→(List TQ)→Option R39) (c40:(List TQ)→(List TQ)→Option R40) (c41:Int→Option R41) (c42:Int→Option R42) (c43:Int→Option R43) (c44:Int→Option R44) (c45:(List TQ)→(List TQ)→(List TQ)→Option R45) (c46:(List Int)→Option R46) (c47:Int→Int→Option R47) (c48:(List TQ)→TQ→Option R48)
noncomputable def B6 (x0:Int) (x1:Int):Option R6:=(c19).bind fun r1=>(cnd ((!r1)) (some false) ((c20 x0).bind fun r2=>((c41 r2).bind fun r3=>((c42 r2).bind fun r4=>((c43 r2).bind fun r5=>((c44 r2).bind fun r6=>((c45 r5.1 r3.1 r3.1).bind fun r7=>(if r3.2≠0 then(some false)else(if r4.2≠0 then(some false)else(if r5.2≠0 then(some false)else(if r6.2≠0 then(some false)else(if r7.2≠0 then(some false)else((c40 r3.1 r4.1).bind fun r8=>(cnd ((!r8)) (some false) ((c46 ([r6.1]:List Int)).bind fun r9=>((c40 r7.1 r9).bind fun r10=>(cnd ((!r10)) (some false) (if wrap64 (r2-1)=0 then(none)else((c39 r2 (wrap64 ((Int.tmod (wrap64 (x1)) (wrap64 (r2-1)))+1)) r3.1).bind fun r11=>((c47 (wrap64 ((Int.tmod (wrap64 (x1)) (wrap64 (r2-1)))+1)) r2).bind fun r12=>(if r11.2=0 then(if r12.2=0 then((c14 r12.1).bind fun r13=>((c48 r3.1 (r13.1,r13.2)).bind fun r14=>((c40 r11.1 r14).bind fun r15=>(some r15))))else(some false))else(some false))))))))))))))))))))))
theorem e6 (s:ask6.T):evFn E0 (orcOf (fes6 c14 c19 c20 c39 c40 c41 c42 c43 c44 c45 c46 c47 c48)) an6 (loOf (les6)) 115 cd6 Tryz.f6.results.toList rm6 (ask6.mk' s) (decW rsk6 dec6)=B6 c14 c19 c20 c39 c40 c41 c42 c43 c44 c45 c46 c47 c48 s.1.1 s.1.2.1:=by kernel_rfl
end
end Go.Proofs.YtfllafbphddooaaGreatV
namespace Go.Proofs.YtfllafbphddooaaGreatE
open Go.RowKit Go.Proofs.YtfllafbphddooaaGreatW.PrintWords Go.Proofs.YtfllafbphddooaaGreatW.PrintLast Go.Proofs.YtfllafbphddooaaGreatW.PrintMore
end Go.Proofs.YtfllafbphddooaaGreatE
namespace Go.Proofs.YtfllafbphddooaaGreat
end Go.Proofs.YtfllafbphddooaaGreat
namespace Go.Proofs.YtfllafbphddooaaGreat.All
def bits_Add64.f (a0:Int) (a1:Int) (a2:Int):Option (Int×Int):=if 0≤a0∧0≤a1∧0≤a2∧a2≤1 then some ((a0+a1+a2)%18446744073709551616,(a0+a1+a2)/18446744073709551616)else none
def bits_Sub64.f (a0:Int) (a1:Int) (a2:Int):Option (Int×Int):=if 0≤a0∧0≤a1∧a1≤18446744073709551615∧0≤a2∧a2≤1 then some ((a0-a1-a2)%18446744073709551616,if a0<a1+a2 then 1 else 0)else none
end Go.Proofs.YtfllafbphddooaaGreat.All
namespace Go.Proofs.YtfllafbphddooaaGreatV
open Go Go.RowKit YtfllafbphddooaaGreat YtfllafbphddooaaGreatE YtfllafbphddooaaGreatW.PrintWords YtfllafbphddooaaGreatW.PrintLast YtfllafbphddooaaGreatW.PrintMore
noncomputable abbrev FX247 (k:Nat) (x0:(List TQ)):Option R247:=B247m x0
noncomputable abbrev FX268 (k:Nat) (x0:(List Int)):Option R268:=B268m x0
noncomputable abbrev FX251 (k:Nat) (x0:Int) (x1:Int) (x2:Int):Option R251:=All.bits_Add64.f x0 x1 x2
noncomputable abbrev FX232 (k:Nat) (x0:Int) (x1:Int) (x2:Int):Option R232:=All.bits_Sub64.f x0 x1 x2
end Go.Proofs.YtfllafbphddooaaGreatV
set_option maxRecDepth 100000
namespace Go.Proofs.YtfllafbphddooaaGreatV
open Go Go.RowKit YtfllafbphddooaaGreat YtfllafbphddooaaGreatE YtfllafbphddooaaGreatW.PrintWords YtfllafbphddooaaGreatW.PrintLast YtfllafbphddooaaGreatW.PrintMore
noncomputable def GX40l0:Nat→(List TQ)→(List TQ)→Int→Int→Option R40
 |0,_,_,_,_=>none
 |k+1,x0,x1,x12,x13=>B40l0 (GX40l0 k) x0 x1 x12 x13
noncomputable abbrev FX40 (k:Nat) (x0:(List TQ)) (x1:(List TQ)):Option R40:=B40 (GX40l0 k) x0 x1
noncomputable def GX200l0:Nat→Int→Int→Option R200
 |0,_,_=>none
 |k+1,x0,x1=>B200l0 (GX200l0 k) x0 x1
noncomputable abbrev FX200 (k:Nat) (x0:Int) (x1:Int):Option R200:=B200 (GX200l0 k) x0 x1
noncomputable def GX197l0:Nat→Int→Int→Int→(List Int)→Option R197
 |0,_,_,_,_=>none
 |k+1,x0,x5,x6,x3=>B197l0 (GX197l0 k) (FX200 k) x0 x5 x6 x3
noncomputable abbrev FX197 (k:Nat) (x0:Int):Option R197:=B197 (GX197l0 k) x0
mutual
noncomputable def GX115l0:Nat→Int→(List Int)→(List Int)→Int→Int→Option R115
 |0,_,_,_,_,_=>none
 |k+1,x0,x1,x9,x10,x11=>B115l0 (GX115l0 k) (GX115l1 k) x0 x1 x9 x10 x11
noncomputable def GX115l1:Nat→Int→(List Int)→Int→Int→Option R115
 |0,_,_,_,_=>none
 |k+1,x0,x22,x23,x24=>B115l1 (GX115l1 k) (FX197 k) x0 x22 x23 x24
end
noncomputable abbrev FX115 (k:Nat) (x0:Int) (x1:(List Int)):Option R115:=B115 (GX115l0 k) x0 x1
noncomputable def GX234vl0:Nat→(List Int)→Int→Option R234v
 |0,_,_=>none
 |k+1,x0,x3=>B234vl0 (GX234vl0 k) x0 x3
noncomputable abbrev FX234v (k:Nat) (x0:(List Int)):Option R234v:=B234v (GX234vl0 k) x0
mutual
noncomputable def GX192l0:Nat→(List Int)→Int→Int→(List Int)→Option R192
 |0,_,_,_,_=>none
 |k+1,x17,x18,x19,x3=>B192l0 (GX192l1 k) (GX192l2 k) x17 x18 x19 x3
noncomputable def GX192l1:Nat→Int→Int→(List Int)→Int→Int→Int→(List Int)→Option R192
 |0,_,_,_,_,_,_,_=>none
 |k+1,x4,x5,x17,x18,x19,x24,x3=>B192l1 (GX192l0 k) (GX192l1 k) x4 x5 x17 x18 x19 x24 x3
noncomputable def GX192l2:Nat→Int→(List Int)→Option R192
 |0,_,_=>none
 |k+1,x7,x3=>B192l2 (GX192l2 k) x7 x3
end
noncomputable abbrev FX192 (k:Nat) (x0:(List Int)):Option R192:=B192 (GX192l0 k) (FX234v k) x0
noncomputable abbrev FX108 (k:Nat) (x0:Int):Option R108:=B108 (FX192 k) x0
noncomputable abbrev FX57 (k:Nat) (x0:Int):Option R57:=B57 (FX108 k) x0
noncomputable abbrev FX159 (k:Nat) (x0:TI):Option R159:=B159 x0
noncomputable abbrev FX122 (k:Nat) (x0:Int):Option R122:=B122 (FX57 k) (FX159 k) x0
noncomputable abbrev FX78 (k:Nat) (x0:TQ):Option R78:=B78 x0
noncomputable def GX123l0:Nat→(List TQ)→Int→Option R123
 |0,_,_=>none
 |k+1,x0,x3=>B123l0 (GX123l0 k) (FX78 k) x0 x3
noncomputable abbrev FX123 (k:Nat) (x0:(List TQ)):Option R123:=B123 (GX123l0 k) x0
noncomputable def GX201l0:Nat→(List Int)→Int→Int→(List TQ)→Option R201
 |0,_,_,_,_=>none
 |k+1,x9,x10,x11,x3=>B201l0 (GX201l0 k) (FX122 k) (FX123 k) x9 x10 x11 x3
noncomputable abbrev FX201 (k:Nat) (x0:(List Int)):Option R201:=B201 (GX201l0 k) x0
noncomputable abbrev FX268n (k:Nat) (x0:(List Int)):Option R268n:=B268n x0
noncomputable abbrev FX268m (k:Nat) (x0:(List Int)):Option R268m:=B268m x0
mutual
noncomputable def GX240l0:Nat→(List Int)→(List (List Int))→Int→Int→Option R240
 |0,_,_,_,_=>none
 |k+1,x0,x13,x14,x15=>B240l0 (GX240l1 k) (FX268 k) x0 x13 x14 x15
noncomputable def GX240l1:Nat→(List Int)→Int→Int→(List (List Int))→Int→Int→(List Int)→(List Int)→Option R240
 |0,_,_,_,_,_,_,_,_=>none
 |k+1,x6,x8,x10,x13,x14,x15,x7,x9=>B240l1 (GX240l0 k) (GX240l2 k) x6 x8 x10 x13 x14 x15 x7 x9
noncomputable def GX240l2:Nat→(List Int)→Int→Int→(List (List Int))→Int→Int→(List Int)→Int→Int→(List Int)→(List Int)→Option R240
 |0,_,_,_,_,_,_,_,_,_,_,_=>none
 |k+1,x6,x8,x10,x13,x14,x15,x45,x46,x47,x7,x9=>B240l2 (GX240l1 k) (GX240l2 k) x6 x8 x10 x13 x14 x15 x45 x46 x47 x7 x9
end
noncomputable abbrev FX240 (k:Nat) (x0:(List Int)) (x1:(List (List Int))):Option R240:=B240 (GX240l0 k) x0 x1
noncomputable def GX202Al0:Nat→Int→Int→(List Int)→(List (List Int))→Option R202
 |0,_,_,_,_=>none
 |k+1,x0,x5,x3,x4=>B202l0 (GX202Al0 k) (fun _=>none) (FX240 k) x0 x5 x3 x4
noncomputable abbrev FX202A (k:Nat) (x0:Int):Option R202:=B202 (GX202Al0 k) x0
noncomputable def GX202Bl0:Nat→Int→Int→(List Int)→(List (List Int))→Option R202
 |0,_,_,_,_=>none
 |k+1,x0,x5,x3,x4=>B202l0 (GX202Bl0 k) (FX202A k) (FX240 k) x0 x5 x3 x4
noncomputable abbrev FX202B (k:Nat) (x0:Int):Option R202:=B202 (GX202Bl0 k) x0
noncomputable def GX202l0:Nat→Int→Int→(List Int)→(List (List Int))→Option R202
 |0,_,_,_,_=>none
 |k+1,x0,x5,x3,x4=>B202l0 (GX202l0 k) (FX202B k) (FX240 k) x0 x5 x3 x4
noncomputable abbrev FX202 (k:Nat) (x0:Int):Option R202:=B202 (GX202l0 k) x0
noncomputable abbrev FX117 (k:Nat) (x0:Int):Option R117:=B117 (FX201 k) (FX202 k) x0
noncomputable abbrev FX43 (k:Nat) (x0:Int):Option R43:=B43 (FX115 k) (FX117 k) x0
mutual
noncomputable def GX180l0:Nat→(List Int)→Int→(List Int)→Option R180
 |0,_,_,_=>none
 |k+1,x0,x4,x3=>B180l0 (GX180l1 k) x0 x4 x3
noncomputable def GX180l1:Nat→(List Int)→Int→Int→(List Int)→Option R180
 |0,_,_,_,_=>none
 |k+1,x0,x4,x5,x3=>B180l1 (GX180l0 k) (GX180l1 k) x0 x4 x5 x3
end
noncomputable abbrev FX180 (k:Nat) (x0:(List Int)):Option R180:=B180 (GX180l0 k) x0
noncomputable abbrev FX93 (k:Nat) (x0:Int):Option R93:=B93 (FX180 k) x0
noncomputable abbrev FX25 (k:Nat) (x0:Int):Option R25:=B25 (FX93 k) x0
noncomputable abbrev FX14 (k:Nat) (x0:Int):Option R14:=B14 (FX25 k) x0
noncomputable abbrev FX248 (k:Nat) (x0:TI):Option R248:=B248 x0
noncomputable abbrev FX213 (k:Nat) (x0:TQ):Option R213:=B213 (FX248 k) x0
noncomputable def GX132l0:Nat→(List TQ)→Int→Option R132
 |0,_,_=>none
 |k+1,x0,x3=>B132l0 (GX132l0 k) (FX213 k) x0 x3
noncomputable abbrev FX132 (k:Nat) (x0:(List TQ)):Option R132:=B132 (GX132l0 k) x0
noncomputable def GX46l0:Nat→(List Int)→Int→Int→(List TQ)→Option R46
 |0,_,_,_,_=>none
 |k+1,x6,x7,x8,x3=>B46l0 (GX46l0 k) (FX14 k) (FX132 k) x6 x7 x8 x3
noncomputable abbrev FX46 (k:Nat) (x0:(List Int)):Option R46:=B46 (GX46l0 k) x0
noncomputable def GX253l0:Nat→Int→(List Int)→Option R253
 |0,_,_=>none
 |k+1,x0,y0=>B253l0 (GX253l0 k) x0 y0
noncomputable abbrev FX253 (k:Nat) (y0:(List Int)):Option R253:=B253 (GX253l0 k) y0
mutual
noncomputable def GX221l0:Nat→ByteArray→Int→(List Int)→Option R221
 |0,_,_,_=>none
 |k+1,x0,x4,x3=>B221l0 (GX221l1 k) (FX253 k) x0 x4 x3
noncomputable def GX221l1:Nat→ByteArray→Int→Int→Int→(List Int)→Option R221
 |0,_,_,_,_,_=>none
 |k+1,x0,x4,x5,x6,x3=>B221l1 (GX221l0 k) (GX221l1 k) x0 x4 x5 x6 x3
end
noncomputable abbrev FX221 (k:Nat) (x0:ByteArray):Option R221:=B221 (GX221l0 k) x0
noncomputable def GX222l0:Nat→Int→(List Int)→Int→(List Int)→Option R222
 |0,_,_,_,_=>none
 |k+1,x0,x1,x5,y0=>B222l0 (GX222l0 k) x0 x1 x5 y0
noncomputable abbrev FX222 (k:Nat) (x1:(List Int)) (y0:(List Int)):Option R222:=B222 (GX222l0 k) (FX253 k) x1 y0
mutual
noncomputable def GX147l0:Nat→(List Int)→Int→Int→(List Int)→(List Int)→Option R147
 |0,_,_,_,_,_=>none
 |k+1,x7,x8,x11,x9,x10=>B147l0 (GX147l1 k) (FX180 k) x7 x8 x11 x9 x10
noncomputable def GX147l1:Nat→(List Int)→Int→Int→(List Int)→(List Int)→Option R147
 |0,_,_,_,_,_=>none
 |k+1,x7,x8,x11,x9,x10=>B147l1 (GX147l0 k) (GX147l2 k) (FX222 k) x7 x8 x11 x9 x10
noncomputable def GX147l2:Nat→(List Int)→Int→Int→Int→Int→Int→(List Int)→(List Int)→Option R147
 |0,_,_,_,_,_,_,_,_=>none
 |k+1,x7,x8,x11,x12,x13,x14,x9,x10=>B147l2 (GX147l1 k) (GX147l2 k) x7 x8 x11 x12 x13 x14 x9 x10
end
noncomputable abbrev FX147 (k:Nat) (x0:ByteArray) (x1:ByteArray):Option R147:=B147 (GX147l0 k) (FX221 k) x0 x1
noncomputable def GX146l0:Nat→ByteArray→ByteArray→Option R146
 |0,_,_=>none
 |k+1,x0,x1=>B146l0 (GX146l0 k) (FX147 k) x0 x1
noncomputable abbrev FX146 (k:Nat) (x0:ByteArray) (x1:ByteArray):Option R146:=B146 (GX146l0 k) x0 x1
noncomputable abbrev FX148 (k:Nat) (x0:Bool) (x1:ByteArray):Option R148:=B148 x0 x1
noncomputable abbrev FX60 (k:Nat) (x0:TI) (x1:TI):Option R60:=B60 (FX146 k) (FX147 k) (FX148 k) x0 x1
noncomputable abbrev FX13 (k:Nat) (x0:TI):Option R13:=B13 x0
mutual
noncomputable def GX149l0:Nat→Int→(List Int)→(List Int)→(List Int)→Option R149
 |0,_,_,_,_=>none
 |k+1,x8,x5,x6,x7=>B149l0 (GX149l1 k) (FX180 k) x8 x5 x6 x7
noncomputable def GX149l1:Nat→Int→Int→Int→(List Int)→(List Int)→(List Int)→Option R149
 |0,_,_,_,_,_,_=>none
 |k+1,x8,x9,x10,x5,x6,x7=>B149l1 (GX149l0 k) (GX149l1 k) x8 x9 x10 x5 x6 x7
end
noncomputable abbrev FX149 (k:Nat) (x0:ByteArray) (x1:ByteArray):Option R149:=B149 (GX149l0 k) (FX221 k) x0 x1
noncomputable abbrev FX61 (k:Nat) (x0:TI) (x1:TI):Option R61:=B61 (FX148 k) (FX149 k) x0 x1
noncomputable abbrev FX62 (k:Nat) (x0:TQ):Option R62:=B62 x0
noncomputable abbrev FX12 (k:Nat) (x0:TQ) (x1:TQ):Option R12:=B12 (FX13 k) (FX60 k) (FX61 k) (FX62 k) x0 x1
noncomputable def GX234l0:Nat→Int→(List Int)→Option R234
 |0,_,_=>none
 |k+1,x3,y0=>B234l0 (GX234l0 k) x3 y0
noncomputable abbrev FX234 (k:Nat) (y0:(List Int)):Option R234:=B234 (GX234l0 k) y0
noncomputable abbrev FX252 (k:Nat) (x0:Int) (x1:Int):Option R252:=B252 x0 x1
mutual
noncomputable def GX219l0:Nat→(List Int)→(List Int)→Int→Int→(List Int)→Option R219
 |0,_,_,_,_,_=>none
 |k+1,x1,x20,x21,x22,x5=>B219l0 (GX219l1 k) (FX234 k) x1 x20 x21 x22 x5
noncomputable def GX219l1:Nat→(List Int)→Int→Int→Int→(List Int)→Int→Int→(List Int)→Int→Int→(List Int)→Option R219
 |0,_,_,_,_,_,_,_,_,_,_,_=>none
 |k+1,x1,x6,x7,x8,x20,x21,x22,x27,x28,x29,x5=>B219l1 (GX219l0 k) (GX219l1 k) (FX251 k) (FX252 k) x1 x6 x7 x8 x20 x21 x22 x27 x28 x29 x5
end
noncomputable abbrev FX219 (k:Nat) (x0:(List Int)) (x1:(List Int)):Option R219:=B219 (GX219l0 k) x0 x1
noncomputable def GX220l0:Nat→ByteArray→Int→Int→(List Int)→Option R220
 |0,_,_,_,_=>none
 |k+1,x0,x12,x13,x3=>B220l0 (GX220l0 k) (FX234 k) x0 x12 x13 x3
noncomputable abbrev FX220 (k:Nat) (x0:ByteArray):Option R220:=B220 (GX220l0 k) x0
noncomputable abbrev FX144 (k:Nat) (x0:ByteArray) (x1:ByteArray):Option R144:=B144 (FX192 k) (FX219 k) (FX220 k) x0 x1
noncomputable def GX217l0:Nat→Int→Int→Int→(List Int)→(List Int)→(List Int)→Option R217
 |0,_,_,_,_,_,_=>none
 |k+1,x8,x27,x28,x5,x6,x7=>B217l0 (GX217l0 k) (FX192 k) (FX251 k) x8 x27 x28 x5 x6 x7
noncomputable abbrev FX217 (k:Nat) (x0:ByteArray) (x1:ByteArray):Option R217:=B217 (GX217l0 k) (FX220 k) x0 x1
noncomputable abbrev FX218 (k:Nat) (x0:ByteArray) (x1:ByteArray):Option R218:=B218 x0 x1
noncomputable abbrev FX143 (k:Nat) (x0:Bool) (x1:ByteArray):Option R143:=B143 x0 x1
noncomputable def GX187l0:Nat→Int→Int→Int→(List Int)→(List Int)→Option R187
 |0,_,_,_,_,_=>none
 |k+1,x7,x15,x16,x5,x6=>B187l0 (GX187l0 k) (FX192 k) (FX232 k) x7 x15 x16 x5 x6
noncomputable abbrev FX187 (k:Nat) (x0:ByteArray) (x1:ByteArray):Option R187:=B187 (GX187l0 k) (FX220 k) x0 x1
noncomputable abbrev FX141 (k:Nat) (x0:TI) (x1:TI):Option R141:=B141 (FX143 k) (FX187 k) (FX217 k) (FX218 k) x0 x1
noncomputable def GX259l0:Nat→(List Int)→(List Int)→Int→Option R259
 |0,_,_,_=>none
 |k+1,x0,x1,x5=>B259l0 (GX259l0 k) x0 x1 x5
noncomputable abbrev FX259 (k:Nat) (x0:(List Int)) (x1:(List Int)):Option R259:=B259 (GX259l0 k) x0 x1
noncomputable abbrev FX272 (k:Nat) (x0:Int):Option R272:=B272 x0
noncomputable abbrev FX261 (k:Nat) (x0:Int):Option R261:=B261 (FX272 k) x0
mutual
noncomputable def GX260l0:Nat→Int→Int→Int→Int→Int→Int→Int→Int→Int→Option R260
 |0,_,_,_,_,_,_,_,_,_=>none
 |k+1,x2,x8,x9,x10,x11,x13,x14,x15,x16=>B260l0 (GX260l0 k) (GX260l1 k) x2 x8 x9 x10 x11 x13 x14 x15 x16
noncomputable def GX260l1:Nat→Int→Int→Int→Int→Int→Int→Int→Int→Int→Option R260
 |0,_,_,_,_,_,_,_,_,_=>none
 |k+1,x2,x8,x9,x10,x14,x15,x16,x17,x18=>B260l1 (GX260l1 k) x2 x8 x9 x10 x14 x15 x16 x17 x18
end
noncomputable abbrev FX260 (k:Nat) (x0:Int) (x1:Int) (x2:Int):Option R260:=B260 (GX260l0 k) (FX261 k) x0 x1 x2
noncomputable def GX262l0:Nat→Int→(List Int)→Int→Int→(List Int)→Option R262
 |0,_,_,_,_,_=>none
 |k+1,x1,x12,x13,x14,x5=>B262l0 (GX262l0 k) x1 x12 x13 x14 x5
noncomputable abbrev FX262 (k:Nat) (x0:(List Int)) (x1:Int):Option R262:=B262 (GX262l0 k) x0 x1
mutual
noncomputable def GX263l0:Nat→(List Int)→Int→Int→Int→Int→(List Int)→Option R263
 |0,_,_,_,_,_,_=>none
 |k+1,x1,x5,x6,x7,x8,y0=>B263l0 (GX263l0 k) (GX263l1 k) (FX251 k) (FX252 k) x1 x5 x6 x7 x8 y0
noncomputable def GX263l1:Nat→(List Int)→Int→Int→Int→Int→Int→Int→(List Int)→Option R263
 |0,_,_,_,_,_,_,_,_=>none
 |k+1,x1,x5,x6,x11,x12,x104,x105,y0=>B263l1 (GX263l1 k) (GX263l2 k) (FX232 k) (FX251 k) (FX252 k) x1 x5 x6 x11 x12 x104 x105 y0
noncomputable def GX263l2:Nat→(List Int)→Int→Int→Int→Int→Int→(List Int)→Option R263
 |0,_,_,_,_,_,_,_=>none
 |k+1,x1,x5,x6,x17,x156,x157,y0=>B263l2 (GX263l2 k) (FX251 k) x1 x5 x6 x17 x156 x157 y0
end
noncomputable abbrev FX263 (k:Nat) (x1:(List Int)) (y0:(List Int)):Option R263:=B263 (GX263l0 k) (FX251 k) (FX260 k) x1 y0
end Go.Proofs.YtfllafbphddooaaGreatV
