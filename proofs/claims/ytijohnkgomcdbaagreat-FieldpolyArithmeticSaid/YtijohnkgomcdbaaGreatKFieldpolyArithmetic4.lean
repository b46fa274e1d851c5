/- Part of the proof of the statement FieldpolyArithmetic: lemmas on the model's steps, Lean functions that say what the program's functions compute, and proofs that the calls do just that. No hypothesis is added. -/
import Derived.Test.YtijohnkgomcdbaaGreatKFieldpolyArithmetic3
set_option linter.all false
set_option maxRecDepth 100000
namespace Go.Proofs.YtijohnkgomcdbaaGreatV
open Go Go.RowKit YtijohnkgomcdbaaGreatE YtijohnkgomcdbaaGreatW.PrintWords YtijohnkgomcdbaaGreatW.PrintLast YtijohnkgomcdbaaGreatW.PrintMore
noncomputable def D28:FD:=⟨28,Tryz.f28,55,⟨[],[],[]⟩,⟨[(0, .d (.ag (.li (.ag (.pr (.ag (.pr .bo .st)) .st))))),(1, .d (.li (.li (.ag (.pr (.ag (.pr .bo .st)) .st))))),(2, .d (.li (.li (.ag (.pr (.ag (.pr .bo .st)) .st)))))],[]⟩,⟨[(0, .d (.li (.li (.ag (.pr (.ag (.pr .bo .st)) .st))))),(1, .d (.li (.li (.ag (.pr (.ag (.pr .bo .st)) .st))))),(2, .d (.it .i64))],[]⟩,[.d (.li (.li (.ag (.pr (.ag (.pr .bo .st)) .st)))), .d (.li (.li (.ag (.pr (.ag (.pr .bo .st)) .st)))), .d (.it .i64)],R28,fun o=>((o.1,o.2.1,o.2.2,()),()),fun s=>(s.1.1,s.1.2.1,s.1.2.2.1)⟩
noncomputable def D3Q (F:(List TQ)→(List (List TQ))→(List (List TQ))→Option R28):FE:=D28.fe fun s=>F s.1.1 s.1.2.1 s.1.2.2.1
abbrev Z8:Type:=Bool
noncomputable def D29:FD:=⟨29,Tryz.f29,27,⟨[(4,[(0, .any),(1, .any),(12, .any),(13, .any)])],[],[]⟩,⟨[(0, .d (.li (.li (.ag (.pr (.ag (.pr .bo .st)) .st))))),(1, .d (.li (.li (.ag (.pr (.ag (.pr .bo .st)) .st)))))],[]⟩,⟨[(0, .d .bo)],[]⟩,[.d .bo],Z8,fun o=>((o,()),()),fun s=>s.1.1⟩
noncomputable def B4N (F:(List (List TQ))→(List (List TQ))→Option Z8):FE:=D29.fe fun s=>F s.1.1 s.1.2.1
abbrev n9:Type:=(List (List TQ))
noncomputable def D30:FD:=⟨30,Tryz.f30,60,⟨[(3,[(1, .any),(2, .any),(3, .any),(7, .own (.li (.ag (.pr (.ag (.pr .bo .st)) .st)))),(8, .any)]),(7,[(1, .any),(2, .any),(3, .any),(7, .any),(8, .any),(9, .val (.li (.ag (.pr (.ag (.pr .bo .st)) .st)))),(22, .any),(23, .any)])],[],[]⟩,⟨[(0, .d (.ag (.li (.ag (.pr (.ag (.pr .bo .st)) .st))))),(1, .d (.li (.li (.ag (.pr (.ag (.pr .bo .st)) .st))))),(2, .d (.li (.li (.ag (.pr (.ag (.pr .bo .st)) .st)))))],[]⟩,⟨[(0, .d (.li (.li (.ag (.pr (.ag (.pr .bo .st)) .st)))))],[]⟩,[.d (.li (.li (.ag (.pr (.ag (.pr .bo .st)) .st))))],n9,fun o=>((o,()),()),fun s=>s.1.1⟩
noncomputable def D9S (F:(List TQ)→(List (List TQ))→(List (List TQ))→Option n9):FE:=D30.fe fun s=>F s.1.1 s.1.2.1 s.1.2.2.1
abbrev R31:Type:=((List (List TQ))×Int)
noncomputable def D31:FD:=⟨31,Tryz.f31,66,⟨[(5,[(3, .any),(9, .any)])],[],[]⟩,⟨[(0, .d (.ag (.li (.ag (.pr (.ag (.pr .bo .st)) .st))))),(1, .d (.li (.li (.ag (.pr (.ag (.pr .bo .st)) .st))))),(2, .d (.li (.li (.ag (.pr (.ag (.pr .bo .st)) .st)))))],[]⟩,⟨[(0, .d (.li (.li (.ag (.pr (.ag (.pr .bo .st)) .st))))),(1, .d (.it .i64))],[]⟩,[.d (.li (.li (.ag (.pr (.ag (.pr .bo .st)) .st)))), .d (.it .i64)],R31,fun o=>((o.1,o.2,()),()),fun s=>(s.1.1,s.1.2.1)⟩
noncomputable def D5S (F:(List TQ)→(List (List TQ))→(List (List TQ))→Option R31):FE:=D31.fe fun s=>F s.1.1 s.1.2.1 s.1.2.2.1
abbrev R34:Type:=Int
noncomputable def D34:FD:=⟨34,Tryz.f34,15,⟨[(2,[(5, .any),(6, .any),(7, .any)])],[],[]⟩,⟨[(0, .d (.li (.it .i64)))],[]⟩,⟨[(0, .d (.it .i64))],[]⟩,[.d (.it .i64)],R34,fun o=>((o,()),()),fun s=>s.1.1⟩
noncomputable def D3l (F:(List Int)→Option R34):FE:=D34.fe fun s=>F s.1.1
abbrev A9g:Type:=Bool
noncomputable def B6s:FD:=⟨38,Tryz.f38,41,⟨[],[],[]⟩,⟨[(0, .d (.li (.li (.ag (.pr (.ag (.pr .bo .st)) .st))))),(1, .d (.it .i64)),(2, .d (.it .i64)),(3, .cl 65 [(.li (.li (.ag (.pr (.ag (.pr .bo .st)) .st)))),(.li (.li (.ag (.pr (.ag (.pr .bo .st)) .st))))])],[]⟩,⟨[(0, .d .bo)],[]⟩,[.d .bo],A9g,fun o=>((o,()),()),fun s=>s.1.1⟩
noncomputable def D1z (F:(List (List TQ))→Int→Int→((List (List TQ))×(List (List TQ))×Unit)→Option A9g):FE:=B6s.fe fun s=>F s.1.1 s.1.2.1 s.1.2.2.1 s.1.2.2.2.1
abbrev B2b:Type:=Bool
noncomputable def B7g:FD:=⟨38,Tryz.f38,41,⟨[],[],[]⟩,⟨[(0, .d (.li (.li (.ag (.pr (.ag (.pr .bo .st)) .st))))),(1, .d (.it .i64)),(2, .d (.it .i64)),(3, .cl 66 [(.li (.li (.ag (.pr (.ag (.pr .bo .st)) .st)))),(.li (.li (.ag (.pr (.ag (.pr .bo .st)) .st))))])],[]⟩,⟨[(0, .d .bo)],[]⟩,[.d .bo],B2b,fun o=>((o,()),()),fun s=>s.1.1⟩
noncomputable def D1J (F:(List (List TQ))→Int→Int→((List (List TQ))×(List (List TQ))×Unit)→Option B2b):FE:=B7g.fe fun s=>F s.1.1 s.1.2.1 s.1.2.2.1 s.1.2.2.2.1
abbrev B1Q:Type:=Bool
noncomputable def B6R:FD:=⟨38,Tryz.f38,41,⟨[],[],[]⟩,⟨[(0, .d (.li (.li (.ag (.pr (.ag (.pr .bo .st)) .st))))),(1, .d (.it .i64)),(2, .d (.it .i64)),(3, .cl 68 [(.ag (.li (.ag (.pr (.ag (.pr .bo .st)) .st)))),(.li (.li (.ag (.pr (.ag (.pr .bo .st)) .st)))),(.li (.li (.ag (.pr (.ag (.pr .bo .st)) .st))))])],[]⟩,⟨[(0, .d .bo)],[]⟩,[.d .bo],B1Q,fun o=>((o,()),()),fun s=>s.1.1⟩
noncomputable def D4V (F:(List (List TQ))→Int→Int→((List TQ)×(List (List TQ))×(List (List TQ))×Unit)→Option B1Q):FE:=B6R.fe fun s=>F s.1.1 s.1.2.1 s.1.2.2.1 s.1.2.2.2.1
abbrev m7:Type:=Int
noncomputable def D44:FD:=⟨44,Tryz.f44,21,⟨[(4,[(9, .any),(10, .any),(11, .any)])],[],[]⟩,⟨[(0, .d (.li (.li (.ag (.pr (.ag (.pr .bo .st)) .st)))))],[]⟩,⟨[(0, .d (.it .i64))],[]⟩,[.d (.it .i64)],m7,fun o=>((o,()),()),fun s=>s.1.1⟩
noncomputable def B7f (F:(List (List TQ))→Option m7):FE:=D44.fe fun s=>F s.1.1
abbrev Z3:Type:=(List TQ)
noncomputable def D45:FD:=⟨45,Tryz.f45,57,⟨[(3,[(0, .any),(1, .any),(5, .own (.ag (.pr (.ag (.pr .bo .st)) .st))),(6, .any)]),(7,[(0, .any),(1, .any),(5, .any),(6, .any),(7, .any),(21, .any),(22, .any)])],[],[]⟩,⟨[(0, .d (.li (.ag (.pr (.ag (.pr .bo .st)) .st)))),(1, .d (.li (.ag (.pr (.ag (.pr .bo .st)) .st))))],[]⟩,⟨[(0, .d (.li (.ag (.pr (.ag (.pr .bo .st)) .st))))],[]⟩,[.d (.li (.ag (.pr (.ag (.pr .bo .st)) .st)))],Z3,fun o=>((o,()),()),fun s=>s.1.1⟩
noncomputable def C7c (F:(List TQ)→(List TQ)→Option Z3):FE:=D45.fe fun s=>F s.1.1 s.1.2.1
abbrev S4:Type:=(List TQ)
noncomputable def D48:FD:=⟨48,Tryz.f48,24,⟨[(2,[(0, .any),(3, .any)])],[],[]⟩,⟨[(0, .d (.li (.ag (.pr (.ag (.pr .bo .st)) .st))))],[]⟩,⟨[(0, .d (.li (.ag (.pr (.ag (.pr .bo .st)) .st))))],[]⟩,[.d (.li (.ag (.pr (.ag (.pr .bo .st)) .st)))],S4,fun o=>((o,()),()),fun s=>s.1.1⟩
noncomputable def A8z (F:(List TQ)→Option S4):FE:=D48.fe fun s=>F s.1.1
abbrev R49:Type:=Bool
noncomputable def D49:FD:=⟨49,Tryz.f49,21,⟨[],[],[]⟩,⟨[(0, .d (.ag (.li (.ag (.pr (.ag (.pr .bo .st)) .st))))),(1, .d (.li (.ag (.pr (.ag (.pr .bo .st)) .st))))],[]⟩,⟨[(0, .d .bo)],[]⟩,[.d .bo],R49,fun o=>((o,()),()),fun s=>s.1.1⟩
noncomputable def D4p (F:(List TQ)→(List TQ)→Option R49):FE:=D49.fe fun s=>F s.1.1 s.1.2.1
abbrev R50:Type:=((List (List TQ))×Int)
noncomputable def D50:FD:=⟨50,Tryz.f50,27,⟨[],[],[]⟩,⟨[(0, .d (.ag (.li (.ag (.pr (.ag (.pr .bo .st)) .st))))),(1, .d (.li (.li (.ag (.pr (.ag (.pr .bo .st)) .st))))),(2, .d (.li (.ag (.pr (.ag (.pr .bo .st)) .st))))],[]⟩,⟨[(0, .d (.li (.li (.ag (.pr (.ag (.pr .bo .st)) .st))))),(1, .d (.it .i64))],[]⟩,[.d (.li (.li (.ag (.pr (.ag (.pr .bo .st)) .st)))), .d (.it .i64)],R50,fun o=>((o.1,o.2,()),()),fun s=>(s.1.1,s.1.2.1)⟩
noncomputable def D6Q (F:(List TQ)→(List (List TQ))→(List TQ)→Option R50):FE:=D50.fe fun s=>F s.1.1 s.1.2.1 s.1.2.2.1
abbrev R51:Type:=(List TQ)
noncomputable def D51:FD:=⟨51,Tryz.f51,10,⟨[],[],[]⟩,⟨[(0, .d (.li (.ag (.pr (.ag (.pr .bo .st)) .st)))),(1, .d (.li (.ag (.pr (.ag (.pr .bo .st)) .st))))],[]⟩,⟨[(0, .d (.li (.ag (.pr (.ag (.pr .bo .st)) .st))))],[]⟩,[.d (.li (.ag (.pr (.ag (.pr .bo .st)) .st)))],R51,fun o=>((o,()),()),fun s=>s.1.1⟩
noncomputable def C7R (F:(List TQ)→(List TQ)→Option R51):FE:=D51.fe fun s=>F s.1.1 s.1.2.1
abbrev R53:Type:=((List (List TQ))×Int)
noncomputable def D53:FD:=⟨53,Tryz.f53,21,⟨[],[],[]⟩,⟨[(0, .d (.ag (.li (.ag (.pr (.ag (.pr .bo .st)) .st))))),(1, .d (.li (.li (.ag (.pr (.ag (.pr .bo .st)) .st))))),(2, .d (.li (.li (.ag (.pr (.ag (.pr .bo .st)) .st)))))],[]⟩,⟨[(0, .d (.li (.li (.ag (.pr (.ag (.pr .bo .st)) .st))))),(1, .d (.it .i64))],[]⟩,[.d (.li (.li (.ag (.pr (.ag (.pr .bo .st)) .st)))), .d (.it .i64)],R53,fun o=>((o.1,o.2,()),()),fun s=>(s.1.1,s.1.2.1)⟩
noncomputable def D8u (F:(List TQ)→(List (List TQ))→(List (List TQ))→Option R53):FE:=D53.fe fun s=>F s.1.1 s.1.2.1 s.1.2.2.1
abbrev R55:Type:=Int
noncomputable def D55:FD:=⟨55,Tryz.f55,23,⟨[],[],[]⟩,⟨[(0, .d (.ag (.li (.ag (.pr (.ag (.pr .bo .st)) .st))))),(1, .d (.li (.ag (.pr (.ag (.pr .bo .st)) .st))))],[]⟩,⟨[(0, .d (.it .i64))],[]⟩,[.d (.it .i64)],R55,fun o=>((o,()),()),fun s=>s.1.1⟩
noncomputable def D3R (F:(List TQ)→(List TQ)→Option R55):FE:=D55.fe fun s=>F s.1.1 s.1.2.1
abbrev R63:Type:=((List (List TQ))×Int)
noncomputable def D63:FD:=⟨63,Tryz.f63,21,⟨[],[],[]⟩,⟨[(0, .d (.ag (.li (.ag (.pr (.ag (.pr .bo .st)) .st))))),(1, .d (.li (.li (.ag (.pr (.ag (.pr .bo .st)) .st))))),(2, .d (.li (.li (.ag (.pr (.ag (.pr .bo .st)) .st)))))],[]⟩,⟨[(0, .d (.li (.li (.ag (.pr (.ag (.pr .bo .st)) .st))))),(1, .d (.it .i64))],[]⟩,[.d (.li (.li (.ag (.pr (.ag (.pr .bo .st)) .st)))), .d (.it .i64)],R63,fun o=>((o.1,o.2,()),()),fun s=>(s.1.1,s.1.2.1)⟩
noncomputable def D6X (F:(List TQ)→(List (List TQ))→(List (List TQ))→Option R63):FE:=D63.fe fun s=>F s.1.1 s.1.2.1 s.1.2.2.1
abbrev R64:Type:=((List (List TQ))×Int)
noncomputable def D64:FD:=⟨64,Tryz.f64,21,⟨[],[],[]⟩,⟨[(0, .d (.ag (.li (.ag (.pr (.ag (.pr .bo .st)) .st))))),(1, .d (.li (.li (.ag (.pr (.ag (.pr .bo .st)) .st))))),(2, .d (.li (.li (.ag (.pr (.ag (.pr .bo .st)) .st)))))],[]⟩,⟨[(0, .d (.li (.li (.ag (.pr (.ag (.pr .bo .st)) .st))))),(1, .d (.it .i64))],[]⟩,[.d (.li (.li (.ag (.pr (.ag (.pr .bo .st)) .st)))), .d (.it .i64)],R64,fun o=>((o.1,o.2,()),()),fun s=>(s.1.1,s.1.2.1)⟩
noncomputable def D6i (F:(List TQ)→(List (List TQ))→(List (List TQ))→Option R64):FE:=D64.fe fun s=>F s.1.1 s.1.2.1 s.1.2.2.1
abbrev R65:Type:=(List (List TQ))
noncomputable def D65:FD:=⟨65,Tryz.f65,6,⟨[],[],[]⟩,⟨[(0, .pv (.li (.li (.ag (.pr (.ag (.pr .bo .st)) .st))))),(1, .pv (.li (.li (.ag (.pr (.ag (.pr .bo .st)) .st)))))],[]⟩,⟨[(0, .d (.li (.li (.ag (.pr (.ag (.pr .bo .st)) .st)))))],[]⟩,[.d (.li (.li (.ag (.pr (.ag (.pr .bo .st)) .st))))],R65,fun o=>((o,()),()),fun s=>s.1.1⟩
noncomputable def D7r (F:(List (List TQ))→(List (List TQ))→Option R65):FE:=D65.fe fun s=>F s.1.1 s.1.2.1
abbrev R66:Type:=(List (List TQ))
noncomputable def D66:FD:=⟨66,Tryz.f66,6,⟨[],[],[]⟩,⟨[(0, .pv (.li (.li (.ag (.pr (.ag (.pr .bo .st)) .st))))),(1, .pv (.li (.li (.ag (.pr (.ag (.pr .bo .st)) .st)))))],[]⟩,⟨[(0, .d (.li (.li (.ag (.pr (.ag (.pr .bo .st)) .st)))))],[]⟩,[.d (.li (.li (.ag (.pr (.ag (.pr .bo .st)) .st))))],R66,fun o=>((o,()),()),fun s=>s.1.1⟩
noncomputable def D2b (F:(List (List TQ))→(List (List TQ))→Option R66):FE:=D66.fe fun s=>F s.1.1 s.1.2.1
abbrev R67:Type:=(List (List TQ))
noncomputable def D67:FD:=⟨67,Tryz.f67,28,⟨[(3,[(0, .any),(1, .any),(5, .own (.li (.ag (.pr (.ag (.pr .bo .st)) .st)))),(6, .any)])],[],[]⟩,⟨[(0, .d (.li (.li (.ag (.pr (.ag (.pr .bo .st)) .st))))),(1, .d (.li (.li (.ag (.pr (.ag (.pr .bo .st)) .st)))))],[]⟩,⟨[(0, .d (.li (.li (.ag (.pr (.ag (.pr .bo .st)) .st)))))],[]⟩,[.d (.li (.li (.ag (.pr (.ag (.pr .bo .st)) .st))))],R67,fun o=>((o,()),()),fun s=>s.1.1⟩
noncomputable def D1I (F:(List (List TQ))→(List (List TQ))→Option R67):FE:=D67.fe fun s=>F s.1.1 s.1.2.1
abbrev R68:Type:=(List (List TQ))
noncomputable def D68:FD:=⟨68,Tryz.f68,8,⟨[],[],[]⟩,⟨[(0, .pv (.ag (.li (.ag (.pr (.ag (.pr .bo .st)) .st))))),(1, .pv (.li (.li (.ag (.pr (.ag (.pr .bo .st)) .st))))),(2, .pv (.li (.li (.ag (.pr (.ag (.pr .bo .st)) .st)))))],[]⟩,⟨[(0, .d (.li (.li (.ag (.pr (.ag (.pr .bo .st)) .st)))))],[]⟩,[.d (.li (.li (.ag (.pr (.ag (.pr .bo .st)) .st))))],R68,fun o=>((o,()),()),fun s=>s.1.1⟩
noncomputable def D4t (F:(List TQ)→(List (List TQ))→(List (List TQ))→Option R68):FE:=D68.fe fun s=>F s.1.1 s.1.2.1 s.1.2.2.1
abbrev o9:Type:=Int
noncomputable def D69:FD:=⟨69,Tryz.f69,34,⟨[(4,[(0, .any),(9, .any),(10, .any),(11, .any)])],[],[]⟩,⟨[(0, .d (.li (.ag (.pr (.ag (.pr .bo .st)) .st))))],[]⟩,⟨[(0, .d (.it .i64))],[]⟩,[.d (.it .i64)],o9,fun o=>((o,()),()),fun s=>s.1.1⟩
noncomputable def C0G (F:(List TQ)→Option o9):FE:=D69.fe fun s=>F s.1.1
abbrev R70:Type:=Bool
noncomputable def D70:FD:=⟨70,Tryz.f70,35,⟨[(4,[(17, .any),(18, .any),(19, .any)])],[],[]⟩,⟨[(0, .d (.li (.ag (.pr (.ag (.pr .bo .st)) .st)))),(1, .d (.it .i64))],[]⟩,⟨[(0, .d .bo)],[]⟩,[.d .bo],R70,fun o=>((o,()),()),fun s=>s.1.1⟩
noncomputable def D5D (F:(List TQ)→Int→Option R70):FE:=D70.fe fun s=>F s.1.1 s.1.2.1
abbrev R79:Type:=Bool
noncomputable def D79:FD:=⟨79,Tryz.f79,31,⟨[(4,[(19, .any),(20, .any),(21, .any)])],[],[]⟩,⟨[(0, .d (.ag (.li (.ag (.pr (.ag (.pr .bo .st)) .st))))),(1, .d (.it .i64))],[]⟩,⟨[(0, .d .bo)],[]⟩,[.d .bo],R79,fun o=>((o,()),()),fun s=>s.1.1⟩
noncomputable def C8q (F:(List TQ)→Int→Option R79):FE:=D79.fe fun s=>F s.1.1 s.1.2.1
abbrev R80:Type:=TQ
noncomputable def D80:FD:=⟨80,Tryz.f80,13,⟨[],[],[]⟩,⟨[(0, .d (.li (.ag (.pr (.ag (.pr .bo .st)) .st))))],[]⟩,⟨[(0, .d (.ag (.pr (.ag (.pr .bo .st)) .st)))],[]⟩,[.d (.ag (.pr (.ag (.pr .bo .st)) .st))],R80,fun o=>(((o.1,o.2),()),()),fun s=>(s.1.1.1,s.1.1.2)⟩
noncomputable def C7C (F:(List TQ)→Option R80):FE:=D80.fe fun s=>F s.1.1
abbrev Y4:Type:=TQ
noncomputable def D81:FD:=⟨81,Tryz.f81,6,⟨[],[],[]⟩,⟨[(0, .d (.it .i64))],[]⟩,⟨[(0, .d (.ag (.pr (.ag (.pr .bo .st)) .st)))],[]⟩,[.d (.ag (.pr (.ag (.pr .bo .st)) .st))],Y4,fun o=>(((o.1,o.2),()),()),fun s=>(s.1.1.1,s.1.1.2)⟩
noncomputable def A6D (F:Int→Option Y4):FE:=D81.fe fun s=>F s.1.1
abbrev R82:Type:=Bool
noncomputable def D82:FD:=⟨82,Tryz.f82,6,⟨[],[],[]⟩,⟨[(0, .d (.ag (.pr (.ag (.pr .bo .st)) .st)))],[]⟩,⟨[(0, .d .bo)],[]⟩,[.d .bo],R82,fun o=>((o,()),()),fun s=>s.1.1⟩
noncomputable def D6N (F:TQ→Option R82):FE:=D82.fe fun s=>F s.1.1
abbrev Q4:Type:=Int
noncomputable def D83:FD:=⟨83,Tryz.f83,27,⟨[(5,[(2, .any),(14, .any),(15, .any),(16, .any)])],[],[]⟩,⟨[(0, .d (.ag (.li (.ag (.pr (.ag (.pr .bo .st)) .st))))),(1, .d (.li (.li (.li (.ag (.pr (.ag (.pr .bo .st)) .st))))))],[]⟩,⟨[(0, .d (.it .i64))],[]⟩,[.d (.it .i64)],Q4,fun o=>((o,()),()),fun s=>s.1.1⟩
noncomputable def A5j (F:(List TQ)→(List (List (List TQ)))→Option Q4):FE:=D83.fe fun s=>F s.1.1 s.1.2.1
abbrev R84:Type:=TQ
noncomputable def D84:FD:=⟨84,Tryz.f84,70,⟨[(2,[(0, .any),(1, .any),(4, .any),(5, .any)])],[],[]⟩,⟨[(0, .d (.li (.ag (.pr (.ag (.pr .bo .st)) .st)))),(1, .d (.li (.ag (.pr (.ag (.pr .bo .st)) .st))))],[]⟩,⟨[(0, .d (.ag (.pr (.ag (.pr .bo .st)) .st)))],[]⟩,[.d (.ag (.pr (.ag (.pr .bo .st)) .st))],R84,fun o=>(((o.1,o.2),()),()),fun s=>(s.1.1.1,s.1.1.2)⟩
noncomputable def D5N (F:(List TQ)→(List TQ)→Option R84):FE:=D84.fe fun s=>F s.1.1 s.1.2.1
abbrev R85:Type:=(List TQ)
noncomputable def D85:FD:=⟨85,Tryz.f85,27,⟨[(3,[(1, .any),(2, .any),(3, .any),(7, .val (.li (.ag (.pr (.ag (.pr .bo .st)) .st)))),(8, .any)])],[],[]⟩,⟨[(0, .d (.ag (.li (.ag (.pr (.ag (.pr .bo .st)) .st))))),(1, .d (.li (.li (.ag (.pr (.ag (.pr .bo .st)) .st))))),(2, .d (.li (.ag (.pr (.ag (.pr .bo .st)) .st))))],[]⟩,⟨[(0, .d (.li (.ag (.pr (.ag (.pr .bo .st)) .st))))],[]⟩,[.d (.li (.ag (.pr (.ag (.pr .bo .st)) .st)))],R85,fun o=>((o,()),()),fun s=>s.1.1⟩
noncomputable def D3I (F:(List TQ)→(List (List TQ))→(List TQ)→Option R85):FE:=D85.fe fun s=>F s.1.1 s.1.2.1 s.1.2.2.1
abbrev c8:Type:=(List TQ)
noncomputable def D86:FD:=⟨86,Tryz.f86,24,⟨[(3,[(3, .any),(9, .any),(10, .any),(11, .any)])],[],[]⟩,⟨[(0, .d (.li (.it .i64)))],[]⟩,⟨[(0, .d (.li (.ag (.pr (.ag (.pr .bo .st)) .st))))],[]⟩,[.d (.li (.ag (.pr (.ag (.pr .bo .st)) .st)))],c8,fun o=>((o,()),()),fun s=>s.1.1⟩
noncomputable def B5C (F:(List Int)→Option c8):FE:=D86.fe fun s=>F s.1.1
abbrev R87:Type:=TQ
noncomputable def D87:FD:=⟨87,Tryz.f87,9,⟨[],[],[]⟩,⟨[(0, .d (.ag (.pr (.ag (.pr .bo .st)) .st))),(1, .d (.ag (.pr (.ag (.pr .bo .st)) .st)))],[]⟩,⟨[(0, .d (.ag (.pr (.ag (.pr .bo .st)) .st)))],[]⟩,[.d (.ag (.pr (.ag (.pr .bo .st)) .st))],R87,fun o=>(((o.1,o.2),()),()),fun s=>(s.1.1.1,s.1.1.2)⟩
noncomputable def D5Z (F:TQ→TQ→Option R87):FE:=D87.fe fun s=>F s.1.1 s.1.2.1
abbrev R88:Type:=TQ
noncomputable def D88:FD:=⟨88,Tryz.f88,9,⟨[],[],[]⟩,⟨[(0, .d (.ag (.pr (.ag (.pr .bo .st)) .st))),(1, .d (.ag (.pr (.ag (.pr .bo .st)) .st)))],[]⟩,⟨[(0, .d (.ag (.pr (.ag (.pr .bo .st)) .st)))],[]⟩,[.d (.ag (.pr (.ag (.pr .bo .st)) .st))],R88,fun o=>(((o.1,o.2),()),()),fun s=>(s.1.1.1,s.1.1.2)⟩
noncomputable def B9s (F:TQ→TQ→Option R88):FE:=D88.fe fun s=>F s.1.1 s.1.2.1
abbrev X8:Type:=TQ
noncomputable def D89:FD:=⟨89,Tryz.f89,6,⟨[],[],[]⟩,⟨[(0, .d (.it .i64))],[]⟩,⟨[(0, .d (.ag (.pr (.ag (.pr .bo .st)) .st)))],[]⟩,[.d (.ag (.pr (.ag (.pr .bo .st)) .st))],X8,fun o=>(((o.1,o.2),()),()),fun s=>(s.1.1.1,s.1.1.2)⟩
noncomputable def A6O (F:Int→Option X8):FE:=D89.fe fun s=>F s.1.1
abbrev g7:Type:=(List TQ)
noncomputable def D90:FD:=⟨90,Tryz.f90,31,⟨[(3,[(0, .any),(1, .any),(5, .any),(14, .any),(15, .any)])],[],[]⟩,⟨[(0, .d (.li (.ag (.pr (.ag (.pr .bo .st)) .st)))),(1, .d (.li (.ag (.pr (.ag (.pr .bo .st)) .st))))],[]⟩,⟨[(0, .d (.li (.ag (.pr (.ag (.pr .bo .st)) .st))))],[]⟩,[.d (.li (.ag (.pr (.ag (.pr .bo .st)) .st)))],g7,fun o=>((o,()),()),fun s=>s.1.1⟩
noncomputable def B5G (F:(List TQ)→(List TQ)→Option g7):FE:=D90.fe fun s=>F s.1.1 s.1.2.1
abbrev O9:Type:=(List TQ)
noncomputable def D91:FD:=⟨91,Tryz.f91,71,⟨[(5,[(0, .any),(1, .any),(5, .any),(27, .any),(28, .any)]),(10,[(1, .any),(5, .any),(36, .any),(37, .any),(38, .any)]),(14,[(1, .any),(5, .any),(7, .any),(8, .any),(36, .any),(37, .any),(38, .any),(45, .any),(46, .any),(47, .any)])],[],[]⟩,⟨[(0, .d (.li (.ag (.pr (.ag (.pr .bo .st)) .st)))),(1, .d (.li (.ag (.pr (.ag (.pr .bo .st)) .st))))],[]⟩,⟨[(0, .d (.li (.ag (.pr (.ag (.pr .bo .st)) .st))))],[]⟩,[.d (.li (.ag (.pr (.ag (.pr .bo .st)) .st)))],O9,fun o=>((o,()),()),fun s=>s.1.1⟩
noncomputable def B2u (F:(List TQ)→(List TQ)→Option O9):FE:=D91.fe fun s=>F s.1.1 s.1.2.1
abbrev R3:Type:=(List TQ)
noncomputable def D92:FD:=⟨92,Tryz.f92,22,⟨[(2,[(0, .any),(3, .any)])],[],[]⟩,⟨[(0, .d (.li (.ag (.pr (.ag (.pr .bo .st)) .st))))],[]⟩,⟨[(0, .d (.li (.ag (.pr (.ag (.pr .bo .st)) .st))))],[]⟩,[.d (.li (.ag (.pr (.ag (.pr .bo .st)) .st)))],R3,fun o=>((o,()),()),fun s=>s.1.1⟩
noncomputable def A6q (F:(List TQ)→Option R3):FE:=D92.fe fun s=>F s.1.1
abbrev R93:Type:=Bool
noncomputable def D93:FD:=⟨93,Tryz.f93,10,⟨[],[],[]⟩,⟨[(0, .d (.li (.ag (.pr (.ag (.pr .bo .st)) .st))))],[]⟩,⟨[(0, .d .bo)],[]⟩,[.d .bo],R93,fun o=>((o,()),()),fun s=>s.1.1⟩
noncomputable def D2Y (F:(List TQ)→Option R93):FE:=D93.fe fun s=>F s.1.1
abbrev R98:Type:=(List TQ)
noncomputable def D98:FD:=⟨98,Tryz.f98,23,⟨[(3,[(3, .any),(5, .own (.ag (.pr (.ag (.pr .bo .st)) .st))),(8, .any),(9, .any),(10, .any)])],[],[]⟩,⟨[(0, .d (.li (.ag (.pr (.ag (.pr .bo .st)) .st)))),(1, .d (.ag (.pr (.ag (.pr .bo .st)) .st)))],[]⟩,⟨[(0, .d (.li (.ag (.pr (.ag (.pr .bo .st)) .st))))],[]⟩,[.d (.li (.ag (.pr (.ag (.pr .bo .st)) .st)))],R98,fun o=>((o,()),()),fun s=>s.1.1⟩
noncomputable def D7S (F:(List TQ)→TQ→Option R98):FE:=D98.fe fun s=>F s.1.1 s.1.2.1
abbrev R99:Type:=TQ
noncomputable def D99:FD:=⟨99,Tryz.f99,9,⟨[],[],[]⟩,⟨[(0, .d (.ag (.pr (.ag (.pr .bo .st)) .st))),(1, .d (.ag (.pr (.ag (.pr .bo .st)) .st)))],[]⟩,⟨[(0, .d (.ag (.pr (.ag (.pr .bo .st)) .st)))],[]⟩,[.d (.ag (.pr (.ag (.pr .bo .st)) .st))],R99,fun o=>(((o.1,o.2),()),()),fun s=>(s.1.1.1,s.1.1.2)⟩
noncomputable def D1Z (F:TQ→TQ→Option R99):FE:=D99.fe fun s=>F s.1.1 s.1.2.1
abbrev A5G:Type:=TQ
noncomputable def C0U:FD:=⟨101,Tryz.f101,38,⟨[],[],[]⟩,⟨[(0, .d (.ag (.pr (.ag (.pr .bo .st)) .st))),(1, .d (.ag (.pr (.ag (.pr .bo .st)) .st)))],[]⟩,⟨[(0, .d (.ag (.pr (.ag (.pr .bo .st)) .st)))],[]⟩,[.d (.ag (.pr (.ag (.pr .bo .st)) .st))],A5G,fun o=>(((o.1,o.2),()),()),fun s=>(s.1.1.1,s.1.1.2)⟩
noncomputable def C6G (F:TQ→TQ→Option A5G):FE:=C0U.fe fun s=>F s.1.1 s.1.2.1
abbrev A7b:Type:=TQ
noncomputable def C0H:FD:=⟨102,Tryz.f102,14,⟨[],[],[]⟩,⟨[(0, .d (.li (.ag (.pr (.ag (.pr .bo .st)) .st)))),(1, .d (.it .i64))],[]⟩,⟨[(0, .d (.ag (.pr (.ag (.pr .bo .st)) .st)))],[]⟩,[.d (.ag (.pr (.ag (.pr .bo .st)) .st))],A7b,fun o=>(((o.1,o.2),()),()),fun s=>(s.1.1.1,s.1.1.2)⟩
noncomputable def D1V (F:(List TQ)→Int→Option A7b):FE:=C0H.fe fun s=>F s.1.1 s.1.2.1
abbrev A5t:Type:=(List TQ)
noncomputable def C0L:FD:=⟨103,Tryz.f103,13,⟨[],[],[]⟩,⟨[(0, .d (.li (.li (.ag (.pr (.ag (.pr .bo .st)) .st))))),(1, .d (.it .i64))],[]⟩,⟨[(0, .d (.li (.ag (.pr (.ag (.pr .bo .st)) .st))))],[]⟩,[.d (.li (.ag (.pr (.ag (.pr .bo .st)) .st)))],A5t,fun o=>((o,()),()),fun s=>s.1.1⟩
noncomputable def D1B (F:(List (List TQ))→Int→Option A5t):FE:=C0L.fe fun s=>F s.1.1 s.1.2.1
abbrev n7:Type:=(List (List TQ))
noncomputable def A9u:FD:=⟨104,Tryz.f104,24,⟨[(2,[(0, .any),(3, .any)])],[],[]⟩,⟨[(0, .d (.li (.li (.ag (.pr (.ag (.pr .bo .st)) .st)))))],[]⟩,⟨[(0, .d (.li (.li (.ag (.pr (.ag (.pr .bo .st)) .st)))))],[]⟩,[.d (.li (.li (.ag (.pr (.ag (.pr .bo .st)) .st))))],n7,fun o=>((o,()),()),fun s=>s.1.1⟩
noncomputable def B8v (F:(List (List TQ))→Option n7):FE:=A9u.fe fun s=>F s.1.1
abbrev A0g:Type:=((List TQ)×Bool)
noncomputable def B0G:FD:=⟨106,Tryz.f106,46,⟨[(4,[(0, .any),(6, .any),(7, .any),(8, .val (.li (.ag (.pr (.ag (.pr .bo .st)) .st)))),(9, .any)])],[],[]⟩,⟨[(0, .d (.li (.ag (.pr (.ag (.pr .bo .st)) .st)))),(1, .d (.li (.ag (.pr (.ag (.pr .bo .st)) .st))))],[]⟩,⟨[(0, .d (.li (.ag (.pr (.ag (.pr .bo .st)) .st)))),(1, .d .bo)],[]⟩,[.d (.li (.ag (.pr (.ag (.pr .bo .st)) .st))), .d .bo],A0g,fun o=>((o.1,o.2,()),()),fun s=>(s.1.1,s.1.2.1)⟩
noncomputable def C1R (F:(List TQ)→(List TQ)→Option A0g):FE:=B0G.fe fun s=>F s.1.1 s.1.2.1
abbrev a8:Type:=((List (List TQ))×(List (List TQ)))
noncomputable def A6C:FD:=⟨107,Tryz.f107,92,⟨[(7,[(2, .any),(3, .any),(4, .any),(10, .any),(11, .any),(12, .any),(13, .any)]),(13,[(2, .any),(3, .any),(4, .any),(10, .any),(11, .any),(12, .any),(13, .any),(14, .any),(60, .any),(61, .any)])],[],[]⟩,⟨[(0, .d (.ag (.li (.ag (.pr (.ag (.pr .bo .st)) .st))))),(1, .d (.li (.li (.ag (.pr (.ag (.pr .bo .st)) .st))))),(2, .d (.li (.li (.ag (.pr (.ag (.pr .bo .st)) .st))))),(3, .d (.li (.ag (.pr (.ag (.pr .bo .st)) .st))))],[]⟩,⟨[(0, .d (.li (.li (.ag (.pr (.ag (.pr .bo .st)) .st))))),(1, .d (.li (.li (.ag (.pr (.ag (.pr .bo .st)) .st)))))],[]⟩,[.d (.li (.li (.ag (.pr (.ag (.pr .bo .st)) .st)))), .d (.li (.li (.ag (.pr (.ag (.pr .bo .st)) .st))))],a8,fun o=>((o.1,o.2,()),()),fun s=>(s.1.1,s.1.2.1)⟩
noncomputable def C3X (F:(List TQ)→(List (List TQ))→(List (List TQ))→(List TQ)→Option a8):FE:=A6C.fe fun s=>F s.1.1 s.1.2.1 s.1.2.2.1 s.1.2.2.2.1
abbrev i8:Type:=Bool
noncomputable def B8o:FD:=⟨108,Tryz.f108,10,⟨[],[],[]⟩,⟨[(0, .d (.li (.li (.ag (.pr (.ag (.pr .bo .st)) .st)))))],[]⟩,⟨[(0, .d .bo)],[]⟩,[.d .bo],i8,fun o=>((o,()),()),fun s=>s.1.1⟩
noncomputable def A7n (F:(List (List TQ))→Option i8):FE:=B8o.fe fun s=>F s.1.1
abbrev B1S:Type:=(List TQ)
noncomputable def B7n:FD:=⟨109,Tryz.f109,9,⟨[],[],[]⟩,⟨[(0, .d (.ag (.li (.ag (.pr (.ag (.pr .bo .st)) .st))))),(1, .d (.li (.ag (.pr (.ag (.pr .bo .st)) .st))))],[]⟩,⟨[(0, .d (.li (.ag (.pr (.ag (.pr .bo .st)) .st))))],[]⟩,[.d (.li (.ag (.pr (.ag (.pr .bo .st)) .st)))],B1S,fun o=>((o,()),()),fun s=>s.1.1⟩
noncomputable def D3s (F:(List TQ)→(List TQ)→Option B1S):FE:=B7n.fe fun s=>F s.1.1 s.1.2.1
abbrev B0E:Type:=((List (List TQ))×Bool)
noncomputable def B8H:FD:=⟨110,Tryz.f110,29,⟨[],[],[]⟩,⟨[(0, .d (.ag (.li (.ag (.pr (.ag (.pr .bo .st)) .st))))),(1, .d (.li (.li (.ag (.pr (.ag (.pr .bo .st)) .st)))))],[]⟩,⟨[(0, .d (.li (.li (.ag (.pr (.ag (.pr .bo .st)) .st))))),(1, .d .bo)],[]⟩,[.d (.li (.li (.ag (.pr (.ag (.pr .bo .st)) .st)))), .d .bo],B0E,fun o=>((o.1,o.2,()),()),fun s=>(s.1.1,s.1.2.1)⟩
noncomputable def D6T (F:(List TQ)→(List (List TQ))→Option B0E):FE:=B8H.fe fun s=>F s.1.1 s.1.2.1
abbrev B0R:Type:=((List (List TQ))×Int)
noncomputable def B9l:FD:=⟨111,Tryz.f111,10,⟨[],[],[]⟩,⟨[(0, .cl 132 [(.li (.li (.ag (.pr (.ag (.pr .bo .st)) .st)))),(.li (.li (.ag (.pr (.ag (.pr .bo .st)) .st))))])],[]⟩,⟨[(0, .d (.li (.li (.ag (.pr (.ag (.pr .bo .st)) .st))))),(1, .d (.it .i64))],[]⟩,[.d (.li (.li (.ag (.pr (.ag (.pr .bo .st)) .st)))), .d (.it .i64)],B0R,fun o=>((o.1,o.2,()),()),fun s=>(s.1.1,s.1.2.1)⟩
noncomputable def D6U (F:((List (List TQ))×(List (List TQ))×Unit)→Option B0R):FE:=B9l.fe fun s=>F s.1.1
abbrev B0k:Type:=((List (List TQ))×Int)
noncomputable def B8Q:FD:=⟨111,Tryz.f111,10,⟨[],[],[]⟩,⟨[(0, .cl 112 [(.li (.li (.ag (.pr (.ag (.pr .bo .st)) .st))))])],[]⟩,⟨[(0, .d (.li (.li (.ag (.pr (.ag (.pr .bo .st)) .st))))),(1, .d (.it .i64))],[]⟩,[.d (.li (.li (.ag (.pr (.ag (.pr .bo .st)) .st)))), .d (.it .i64)],B0k,fun o=>((o.1,o.2,()),()),fun s=>(s.1.1,s.1.2.1)⟩
noncomputable def D7k (F:((List (List TQ))×Unit)→Option B0k):FE:=B8Q.fe fun s=>F s.1.1
abbrev B0V:Type:=((List (List TQ))×Int)
noncomputable def B7z:FD:=⟨111,Tryz.f111,10,⟨[],[],[]⟩,⟨[(0, .cl 129 [(.ag (.li (.ag (.pr (.ag (.pr .bo .st)) .st)))),(.li (.li (.ag (.pr (.ag (.pr .bo .st)) .st)))),(.li (.li (.ag (.pr (.ag (.pr .bo .st)) .st))))])],[]⟩,⟨[(0, .d (.li (.li (.ag (.pr (.ag (.pr .bo .st)) .st))))),(1, .d (.it .i64))],[]⟩,[.d (.li (.li (.ag (.pr (.ag (.pr .bo .st)) .st)))), .d (.it .i64)],B0V,fun o=>((o.1,o.2,()),()),fun s=>(s.1.1,s.1.2.1)⟩
noncomputable def D8q (F:((List TQ)×(List (List TQ))×(List (List TQ))×Unit)→Option B0V):FE:=B7z.fe fun s=>F s.1.1
abbrev B1i:Type:=((List (List TQ))×Int)
noncomputable def C0V:FD:=⟨111,Tryz.f111,10,⟨[],[],[]⟩,⟨[(0, .cl 125 [(.li (.ag (.pr (.ag (.pr .bo .st)) .st))),(.li (.li (.ag (.pr (.ag (.pr .bo .st)) .st)))),(.ag (.li (.ag (.pr (.ag (.pr .bo .st)) .st))))])],[]⟩,⟨[(0, .d (.li (.li (.ag (.pr (.ag (.pr .bo .st)) .st))))),(1, .d (.it .i64))],[]⟩,[.d (.li (.li (.ag (.pr (.ag (.pr .bo .st)) .st)))), .d (.it .i64)],B1i,fun o=>((o.1,o.2,()),()),fun s=>(s.1.1,s.1.2.1)⟩
noncomputable def D2v (F:((List TQ)×(List (List TQ))×(List TQ)×Unit)→Option B1i):FE:=C0V.fe fun s=>F s.1.1
abbrev B1t:Type:=((List (List TQ))×Int)
noncomputable def B6K:FD:=⟨111,Tryz.f111,10,⟨[],[],[]⟩,⟨[(0, .cl 133 [(.li (.li (.ag (.pr (.ag (.pr .bo .st)) .st)))),(.li (.li (.ag (.pr (.ag (.pr .bo .st)) .st))))])],[]⟩,⟨[(0, .d (.li (.li (.ag (.pr (.ag (.pr .bo .st)) .st))))),(1, .d (.it .i64))],[]⟩,[.d (.li (.li (.ag (.pr (.ag (.pr .bo .st)) .st)))), .d (.it .i64)],B1t,fun o=>((o.1,o.2,()),()),fun s=>(s.1.1,s.1.2.1)⟩
noncomputable def D4r (F:((List (List TQ))×(List (List TQ))×Unit)→Option B1t):FE:=B6K.fe fun s=>F s.1.1
abbrev B2n:Type:=(List (List TQ))
noncomputable def B7y:FD:=⟨112,Tryz.f112,3,⟨[],[],[]⟩,⟨[(0, .pv (.li (.li (.ag (.pr (.ag (.pr .bo .st)) .st)))))],[]⟩,⟨[(0, .d (.li (.li (.ag (.pr (.ag (.pr .bo .st)) .st)))))],[]⟩,[.d (.li (.li (.ag (.pr (.ag (.pr .bo .st)) .st))))],B2n,fun o=>((o,()),()),fun s=>s.1.1⟩
noncomputable def D6z (F:(List (List TQ))→Option B2n):FE:=B7y.fe fun s=>F s.1.1
abbrev A2V:Type:=Int
noncomputable def B2f:FD:=⟨117,Tryz.f117,18,⟨[(2,[(6, .any),(7, .any),(8, .any)])],[],[]⟩,⟨[(0, .d (.li (.ag (.pr (.ag (.pr .bo .st)) .st))))],[]⟩,⟨[(0, .d (.it .i64))],[]⟩,[.d (.it .i64)],A2V,fun o=>((o,()),()),fun s=>s.1.1⟩
noncomputable def D8n (F:(List TQ)→Option A2V):FE:=B2f.fe fun s=>F s.1.1
abbrev A3y:Type:=TQ
noncomputable def B8w:FD:=⟨118,Tryz.f118,30,⟨[],[],[]⟩,⟨[(0, .d (.ag (.pr (.ag (.pr .bo .st)) .st))),(1, .d (.ag (.pr (.ag (.pr .bo .st)) .st)))],[]⟩,⟨[(0, .d (.ag (.pr (.ag (.pr .bo .st)) .st)))],[]⟩,[.d (.ag (.pr (.ag (.pr .bo .st)) .st))],A3y,fun o=>(((o.1,o.2),()),()),fun s=>(s.1.1.1,s.1.1.2)⟩
noncomputable def C0Z (F:TQ→TQ→Option A3y):FE:=B8w.fe fun s=>F s.1.1 s.1.2.1
abbrev A9a:Type:=Int
noncomputable def B9r:FD:=⟨119,Tryz.f119,33,⟨[],[],[]⟩,⟨[(0, .d (.ag (.li (.ag (.pr (.ag (.pr .bo .st)) .st)))))],[]⟩,⟨[(0, .d (.it .i64))],[]⟩,[.d (.it .i64)],A9a,fun o=>((o,()),()),fun s=>s.1.1⟩
noncomputable def D5t (F:(List TQ)→Option A9a):FE:=B9r.fe fun s=>F s.1.1
abbrev A0U:Type:=Int
noncomputable def B2t:FD:=⟨120,Tryz.f120,33,⟨[(4,[(0, .any),(9, .any),(10, .any),(11, .any)])],[],[]⟩,⟨[(0, .d (.li (.ag (.pr (.ag (.pr .bo .st)) .st))))],[]⟩,⟨[(0, .d (.it .i64))],[]⟩,[.d (.it .i64)],A0U,fun o=>((o,()),()),fun s=>s.1.1⟩
noncomputable def C8I (F:(List TQ)→Option A0U):FE:=B2t.fe fun s=>F s.1.1
abbrev T6:Type:=(List (List TQ))
noncomputable def B2e:FD:=⟨122,Tryz.f122,23,⟨[(2,[(0, .any),(3, .any)])],[],[]⟩,⟨[(0, .d (.li (.li (.ag (.pr (.ag (.pr .bo .st)) .st)))))],[]⟩,⟨[(0, .d (.li (.li (.ag (.pr (.ag (.pr .bo .st)) .st)))))],[]⟩,[.d (.li (.li (.ag (.pr (.ag (.pr .bo .st)) .st))))],T6,fun o=>((o,()),()),fun s=>s.1.1⟩
noncomputable def A8S (F:(List (List TQ))→Option T6):FE:=B2e.fe fun s=>F s.1.1
abbrev A5Y:Type:=Int
noncomputable def C0T:FD:=⟨123,Tryz.f123,6,⟨[],[],[]⟩,⟨[(0, .d (.ag (.pr (.ag (.pr .bo .st)) .st)))],[]⟩,⟨[(0, .d (.it .i64))],[]⟩,[.d (.it .i64)],A5Y,fun o=>((o,()),()),fun s=>s.1.1⟩
noncomputable def C1u (F:TQ→Option A5Y):FE:=C0T.fe fun s=>F s.1.1
abbrev A6F:Type:=Int
noncomputable def C0D:FD:=⟨124,Tryz.f124,17,⟨[],[],[]⟩,⟨[(0, .d (.ag (.li (.ag (.pr (.ag (.pr .bo .st)) .st))))),(1, .d (.li (.ag (.pr (.ag (.pr .bo .st)) .st))))],[]⟩,⟨[(0, .d (.it .i64))],[]⟩,[.d (.it .i64)],A6F,fun o=>((o,()),()),fun s=>s.1.1⟩
noncomputable def C2h (F:(List TQ)→(List TQ)→Option A6F):FE:=C0D.fe fun s=>F s.1.1 s.1.2.1
abbrev A2a:Type:=(List (List TQ))
noncomputable def B1O:FD:=⟨125,Tryz.f125,31,⟨[(4,[(1, .any),(2, .any),(4, .val (.li (.li (.ag (.pr (.ag (.pr .bo .st)) .st))))),(5, .any),(6, .any)])],[],[]⟩,⟨[(0, .pv (.li (.ag (.pr (.ag (.pr .bo .st)) .st)))),(1, .pv (.li (.li (.ag (.pr (.ag (.pr .bo .st)) .st))))),(2, .pv (.ag (.li (.ag (.pr (.ag (.pr .bo .st)) .st)))))],[]⟩,⟨[(0, .d (.li (.li (.ag (.pr (.ag (.pr .bo .st)) .st)))))],[]⟩,[.d (.li (.li (.ag (.pr (.ag (.pr .bo .st)) .st))))],A2a,fun o=>((o,()),()),fun s=>s.1.1⟩
noncomputable def D6t (F:(List TQ)→(List (List TQ))→(List TQ)→Option A2a):FE:=B1O.fe fun s=>F s.1.1 s.1.2.1 s.1.2.2.1
abbrev A0o:Type:=(List (List TQ))
noncomputable def B1m:FD:=⟨126,Tryz.f126,31,⟨[(3,[(0, .any),(1, .any),(5, .any),(14, .any),(15, .any)])],[],[]⟩,⟨[(0, .d (.li (.li (.ag (.pr (.ag (.pr .bo .st)) .st))))),(1, .d (.li (.li (.ag (.pr (.ag (.pr .bo .st)) .st)))))],[]⟩,⟨[(0, .d (.li (.li (.ag (.pr (.ag (.pr .bo .st)) .st)))))],[]⟩,[.d (.li (.li (.ag (.pr (.ag (.pr .bo .st)) .st))))],A0o,fun o=>((o,()),()),fun s=>s.1.1⟩
noncomputable def C3F (F:(List (List TQ))→(List (List TQ))→Option A0o):FE:=B1m.fe fun s=>F s.1.1 s.1.2.1
abbrev T3:Type:=(List (List TQ))
noncomputable def A3E:FD:=⟨127,Tryz.f127,77,⟨[(5,[(2, .any),(3, .any),(7, .any),(28, .any),(29, .any),(30, .any)]),(8,[(2, .any),(3, .any),(7, .any),(8, .any),(9, .any),(28, .any),(29, .any),(30, .any),(35, .any),(36, .any),(37, .any)]),(14,[(3, .any),(7, .any),(60, .any),(61, .any)])],[],[]⟩,⟨[(0, .d (.ag (.li (.ag (.pr (.ag (.pr .bo .st)) .st))))),(1, .d (.li (.li (.ag (.pr (.ag (.pr .bo .st)) .st))))),(2, .d (.li (.li (.ag (.pr (.ag (.pr .bo .st)) .st)))))],[]⟩,⟨[(0, .d (.li (.li (.ag (.pr (.ag (.pr .bo .st)) .st)))))],[]⟩,[.d (.li (.li (.ag (.pr (.ag (.pr .bo .st)) .st))))],T3,fun o=>((o,()),()),fun s=>s.1.1⟩
noncomputable def C2p (F:(List TQ)→(List (List TQ))→(List (List TQ))→Option T3):FE:=A3E.fe fun s=>F s.1.1 s.1.2.1 s.1.2.2.1
abbrev B2S:Type:=Bool
noncomputable def B8P:FD:=⟨128,Tryz.f128,5,⟨[],[],[]⟩,⟨[(0, .d (.li (.li (.ag (.pr (.ag (.pr .bo .st)) .st)))))],[]⟩,⟨[(0, .d .bo)],[]⟩,[.d .bo],B2S,fun o=>((o,()),()),fun s=>s.1.1⟩
noncomputable def D3b (F:(List (List TQ))→Option B2S):FE:=B8P.fe fun s=>F s.1.1
abbrev B1y:Type:=(List (List TQ))
noncomputable def B7c:FD:=⟨129,Tryz.f129,8,⟨[],[],[]⟩,⟨[(0, .pv (.ag (.li (.ag (.pr (.ag (.pr .bo .st)) .st))))),(1, .pv (.li (.li (.ag (.pr (.ag (.pr .bo .st)) .st))))),(2, .pv (.li (.li (.ag (.pr (.ag (.pr .bo .st)) .st)))))],[]⟩,⟨[(0, .d (.li (.li (.ag (.pr (.ag (.pr .bo .st)) .st)))))],[]⟩,[.d (.li (.li (.ag (.pr (.ag (.pr .bo .st)) .st))))],B1y,fun o=>((o,()),()),fun s=>s.1.1⟩
noncomputable def D1p (F:(List TQ)→(List (List TQ))→(List (List TQ))→Option B1y):FE:=B7c.fe fun s=>F s.1.1 s.1.2.1 s.1.2.2.1
abbrev A1a:Type:=(List (List TQ))
noncomputable def B0l:FD:=⟨131,Tryz.f131,31,⟨[(3,[(2, .any),(3, .any),(7, .any),(13, .any),(14, .any),(15, .any)])],[],[]⟩,⟨[(0, .d (.ag (.li (.ag (.pr (.ag (.pr .bo .st)) .st))))),(1, .d (.li (.li (.ag (.pr (.ag (.pr .bo .st)) .st))))),(2, .d (.li (.ag (.pr (.ag (.pr .bo .st)) .st))))],[]⟩,⟨[(0, .d (.li (.li (.ag (.pr (.ag (.pr .bo .st)) .st)))))],[]⟩,[.d (.li (.li (.ag (.pr (.ag (.pr .bo .st)) .st))))],A1a,fun o=>((o,()),()),fun s=>s.1.1⟩
noncomputable def D3r (F:(List TQ)→(List (List TQ))→(List TQ)→Option A1a):FE:=B0l.fe fun s=>F s.1.1 s.1.2.1 s.1.2.2.1
abbrev B1E:Type:=(List (List TQ))
noncomputable def B6O:FD:=⟨132,Tryz.f132,6,⟨[],[],[]⟩,⟨[(0, .pv (.li (.li (.ag (.pr (.ag (.pr .bo .st)) .st))))),(1, .pv (.li (.li (.ag (.pr (.ag (.pr .bo .st)) .st)))))],[]⟩,⟨[(0, .d (.li (.li (.ag (.pr (.ag (.pr .bo .st)) .st)))))],[]⟩,[.d (.li (.li (.ag (.pr (.ag (.pr .bo .st)) .st))))],B1E,fun o=>((o,()),()),fun s=>s.1.1⟩
noncomputable def D2p (F:(List (List TQ))→(List (List TQ))→Option B1E):FE:=B6O.fe fun s=>F s.1.1 s.1.2.1
abbrev B0L:Type:=(List (List TQ))
noncomputable def B7m:FD:=⟨133,Tryz.f133,6,⟨[],[],[]⟩,⟨[(0, .pv (.li (.li (.ag (.pr (.ag (.pr .bo .st)) .st))))),(1, .pv (.li (.li (.ag (.pr (.ag (.pr .bo .st)) .st)))))],[]⟩,⟨[(0, .d (.li (.li (.ag (.pr (.ag (.pr .bo .st)) .st)))))],[]⟩,[.d (.li (.li (.ag (.pr (.ag (.pr .bo .st)) .st))))],B0L,fun o=>((o,()),()),fun s=>s.1.1⟩
noncomputable def D4m (F:(List (List TQ))→(List (List TQ))→Option B0L):FE:=B7m.fe fun s=>F s.1.1 s.1.2.1
abbrev A2F:Type:=(List (List TQ))
noncomputable def B2s:FD:=⟨134,Tryz.f134,31,⟨[(3,[(0, .any),(1, .any),(5, .any),(14, .any),(15, .any)])],[],[]⟩,⟨[(0, .d (.li (.li (.ag (.pr (.ag (.pr .bo .st)) .st))))),(1, .d (.li (.li (.ag (.pr (.ag (.pr .bo .st)) .st)))))],[]⟩,⟨[(0, .d (.li (.li (.ag (.pr (.ag (.pr .bo .st)) .st)))))],[]⟩,[.d (.li (.li (.ag (.pr (.ag (.pr .bo .st)) .st))))],A2F,fun o=>((o,()),()),fun s=>s.1.1⟩
noncomputable def D3u (F:(List (List TQ))→(List (List TQ))→Option A2F):FE:=B2s.fe fun s=>F s.1.1 s.1.2.1
abbrev A6d:Type:=Int
noncomputable def C0d:FD:=⟨135,Tryz.f135,28,⟨[],[],[]⟩,⟨[(0, .d (.ag (.pr (.ag (.pr .bo .st)) .st)))],[]⟩,⟨[(0, .d (.it .i64))],[]⟩,[.d (.it .i64)],A6d,fun o=>((o,()),()),fun s=>s.1.1⟩
noncomputable def C8E (F:TQ→Option A6d):FE:=C0d.fe fun s=>F s.1.1
abbrev A1Z:Type:=(List TQ)
noncomputable def B0Y:FD:=⟨137,Tryz.f137,27,⟨[(3,[(3, .any),(5, .any),(11, .any),(12, .any),(13, .any)])],[],[]⟩,⟨[(0, .d (.li (.ag (.pr (.ag (.pr .bo .st)) .st)))),(1, .d (.ag (.pr (.ag (.pr .bo .st)) .st)))],[]⟩,⟨[(0, .d (.li (.ag (.pr (.ag (.pr .bo .st)) .st))))],[]⟩,[.d (.li (.ag (.pr (.ag (.pr .bo .st)) .st)))],A1Z,fun o=>((o,()),()),fun s=>s.1.1⟩
noncomputable def D1e (F:(List TQ)→TQ→Option A1Z):FE:=B0Y.fe fun s=>F s.1.1 s.1.2.1
abbrev A2J:Type:=Int
noncomputable def B1I:FD:=⟨138,Tryz.f138,37,⟨[(4,[(1, .any),(2, .any),(11, .any),(12, .any),(13, .any)])],[],[]⟩,⟨[(0, .d (.ag (.li (.ag (.pr (.ag (.pr .bo .st)) .st))))),(1, .d (.li (.li (.ag (.pr (.ag (.pr .bo .st)) .st)))))],[]⟩,⟨[(0, .d (.it .i64))],[]⟩,[.d (.it .i64)],A2J,fun o=>((o,()),()),fun s=>s.1.1⟩
noncomputable def D7E (F:(List TQ)→(List (List TQ))→Option A2J):FE:=B1I.fe fun s=>F s.1.1 s.1.2.1
abbrev B1e:Type:=TI
noncomputable def B6W:FD:=⟨141,Tryz.f141,16,⟨[],[],[]⟩,⟨[(0, .d (.it .i64))],[]⟩,⟨[(0, .d (.ag (.pr .bo .st)))],[]⟩,[.d (.ag (.pr .bo .st))],B1e,fun o=>(((o.1,o.2),()),()),fun s=>(s.1.1.1,s.1.1.2)⟩
noncomputable def D2q (F:Int→Option B1e):FE:=B6W.fe fun s=>F s.1.1
abbrev v4:Type:=TQ
noncomputable def B9n:FD:=⟨142,Tryz.f142,31,⟨[],[],[]⟩,⟨[(0, .d (.ag (.pr (.ag (.pr .bo .st)) .st))),(1, .d (.ag (.pr (.ag (.pr .bo .st)) .st)))],[]⟩,⟨[(0, .d (.ag (.pr (.ag (.pr .bo .st)) .st)))],[]⟩,[.d (.ag (.pr (.ag (.pr .bo .st)) .st))],v4,fun o=>(((o.1,o.2),()),()),fun s=>(s.1.1.1,s.1.1.2)⟩
noncomputable def B1x (F:TQ→TQ→Option v4):FE:=B9n.fe fun s=>F s.1.1 s.1.2.1
abbrev B0u:Type:=TQ
noncomputable def B7Y:FD:=⟨143,Tryz.f143,14,⟨[],[],[]⟩,⟨[(0, .d (.ag (.pr (.ag (.pr .bo .st)) .st))),(1, .d (.it .i64))],[]⟩,⟨[(0, .d (.ag (.pr (.ag (.pr .bo .st)) .st)))],[]⟩,[.d (.ag (.pr (.ag (.pr .bo .st)) .st))],B0u,fun o=>(((o.1,o.2),()),()),fun s=>(s.1.1.1,s.1.1.2)⟩
noncomputable def D7U (F:TQ→Int→Option B0u):FE:=B7Y.fe fun s=>F s.1.1 s.1.2.1
abbrev Q9:Type:=((List TQ)×(List TQ))
noncomputable def A3p:FD:=⟨144,Tryz.f144,99,⟨[(7,[(0, .any),(1, .any),(6, .any),(7, .any),(8, .any),(30, .any),(31, .any)]),(13,[(1, .any),(6, .any),(7, .any),(8, .any),(10, .any),(11, .any)]),(19,[(1, .any),(6, .any),(7, .any),(8, .any),(10, .any),(11, .any),(12, .any),(69, .any),(70, .any)])],[],[]⟩,⟨[(0, .d (.li (.ag (.pr (.ag (.pr .bo .st)) .st)))),(1, .d (.li (.ag (.pr (.ag (.pr .bo .st)) .st))))],[]⟩,⟨[(0, .d (.li (.ag (.pr (.ag (.pr .bo .st)) .st)))),(1, .d (.li (.ag (.pr (.ag (.pr .bo .st)) .st))))],[]⟩,[.d (.li (.ag (.pr (.ag (.pr .bo .st)) .st))), .d (.li (.ag (.pr (.ag (.pr .bo .st)) .st)))],Q9,fun o=>((o.1,o.2,()),()),fun s=>(s.1.1,s.1.2.1)⟩
noncomputable def B7B (F:(List TQ)→(List TQ)→Option Q9):FE:=A3p.fe fun s=>F s.1.1 s.1.2.1
abbrev A6V:Type:=TQ
noncomputable def B9T:FD:=⟨145,Tryz.f145,9,⟨[],[],[]⟩,⟨[(0, .d (.ag (.pr (.ag (.pr .bo .st)) .st)))],[]⟩,⟨[(0, .d (.ag (.pr (.ag (.pr .bo .st)) .st)))],[]⟩,[.d (.ag (.pr (.ag (.pr .bo .st)) .st))],A6V,fun o=>(((o.1,o.2),()),()),fun s=>(s.1.1.1,s.1.1.2)⟩
noncomputable def C7Q (F:TQ→Option A6V):FE:=B9T.fe fun s=>F s.1.1
abbrev A3j:Type:=(List TQ)
noncomputable def B6r:FD:=⟨146,Tryz.f146,12,⟨[],[],[]⟩,⟨[(0, .d (.li (.ag (.pr (.ag (.pr .bo .st)) .st)))),(1, .d (.li (.ag (.pr (.ag (.pr .bo .st)) .st)))),(2, .d (.li (.ag (.pr (.ag (.pr .bo .st)) .st))))],[]⟩,⟨[(0, .d (.li (.ag (.pr (.ag (.pr .bo .st)) .st))))],[]⟩,[.d (.li (.ag (.pr (.ag (.pr .bo .st)) .st)))],A3j,fun o=>((o,()),()),fun s=>s.1.1⟩
noncomputable def C0e (F:(List TQ)→(List TQ)→(List TQ)→Option A3j):FE:=B6r.fe fun s=>F s.1.1 s.1.2.1 s.1.2.2.1
abbrev A2x:Type:=TQ
noncomputable def B6X:FD:=⟨147,Tryz.f147,13,⟨[],[],[]⟩,⟨[(0, .d (.ag (.pr (.ag (.pr .bo .st)) .st)))],[]⟩,⟨[(0, .d (.ag (.pr (.ag (.pr .bo .st)) .st)))],[]⟩,[.d (.ag (.pr (.ag (.pr .bo .st)) .st))],A2x,fun o=>(((o.1,o.2),()),()),fun s=>(s.1.1.1,s.1.1.2)⟩
noncomputable def B8e (F:TQ→Option A2x):FE:=B6X.fe fun s=>F s.1.1
abbrev A3A:Type:=TQ
noncomputable def B7P:FD:=⟨148,Tryz.f148,58,⟨[],[],[]⟩,⟨[(0, .d (.ag (.pr (.ag (.pr .bo .st)) .st))),(1, .d (.ag (.pr (.ag (.pr .bo .st)) .st)))],[]⟩,⟨[(0, .d (.ag (.pr (.ag (.pr .bo .st)) .st)))],[]⟩,[.d (.ag (.pr (.ag (.pr .bo .st)) .st))],A3A,fun o=>(((o.1,o.2),()),()),fun s=>(s.1.1.1,s.1.1.2)⟩
noncomputable def B9h (F:TQ→TQ→Option A3A):FE:=B7P.fe fun s=>F s.1.1 s.1.2.1
abbrev A3Q:Type:=TQ
noncomputable def B9K:FD:=⟨149,Tryz.f149,5,⟨[],[],[]⟩,⟨[(0, .d (.ag (.pr .bo .st)))],[]⟩,⟨[(0, .d (.ag (.pr (.ag (.pr .bo .st)) .st)))],[]⟩,[.d (.ag (.pr (.ag (.pr .bo .st)) .st))],A3Q,fun o=>(((o.1,o.2),()),()),fun s=>(s.1.1.1,s.1.1.2)⟩
noncomputable def B5x (F:TI→Option A3Q):FE:=B9K.fe fun s=>F s.1.1
abbrev B2q:Type:=TI
noncomputable def B9p:FD:=⟨150,Tryz.f150,14,⟨[],[],[]⟩,⟨[(0, .d (.it .i64))],[]⟩,⟨[(0, .d (.ag (.pr .bo .st)))],[]⟩,[.d (.ag (.pr .bo .st))],B2q,fun o=>(((o.1,o.2),()),()),fun s=>(s.1.1.1,s.1.1.2)⟩
noncomputable def D1i (F:Int→Option B2q):FE:=B9p.fe fun s=>F s.1.1
abbrev A5r:Type:=TQ
noncomputable def B6T:FD:=⟨151,Tryz.f151,18,⟨[],[],[]⟩,⟨[(0, .d (.li (.ag (.pr (.ag (.pr .bo .st)) .st)))),(1, .d (.it .i64))],[]⟩,⟨[(0, .d (.ag (.pr (.ag (.pr .bo .st)) .st)))],[]⟩,[.d (.ag (.pr (.ag (.pr .bo .st)) .st))],A5r,fun o=>(((o.1,o.2),()),()),fun s=>(s.1.1.1,s.1.1.2)⟩
noncomputable def C1o (F:(List TQ)→Int→Option A5r):FE:=B6T.fe fun s=>F s.1.1 s.1.2.1
abbrev A1F:Type:=Bool
noncomputable def B9I:FD:=⟨152,Tryz.f152,7,⟨[],[],[]⟩,⟨[(0, .d (.ag (.pr (.ag (.pr .bo .st)) .st)))],[]⟩,⟨[(0, .d .bo)],[]⟩,[.d .bo],A1F,fun o=>((o,()),()),fun s=>s.1.1⟩
noncomputable def B4g (F:TQ→Option A1F):FE:=B9I.fe fun s=>F s.1.1
abbrev B0C:Type:=Bool
noncomputable def B9S:FD:=⟨153,Tryz.f153,9,⟨[],[],[]⟩,⟨[(0, .d (.li (.ag (.pr (.ag (.pr .bo .st)) .st)))),(1, .f (.cl 170 []))],[]⟩,⟨[(0, .d .bo)],[]⟩,[.d .bo],B0C,fun o=>((o,()),()),fun s=>s.1.1⟩
noncomputable def D2B (F:(List TQ)→Option B0C):FE:=B9S.fe fun s=>F s.1.1
abbrev A6l:Type:=Bool
noncomputable def B7k:FD:=⟨153,Tryz.f153,9,⟨[],[],[]⟩,⟨[(0, .d (.li (.ag (.pr (.ag (.pr .bo .st)) .st)))),(1, .f (.cl 154 []))],[]⟩,⟨[(0, .d .bo)],[]⟩,[.d .bo],A6l,fun o=>((o,()),()),fun s=>s.1.1⟩
noncomputable def D0v (F:(List TQ)→Option A6l):FE:=B7k.fe fun s=>F s.1.1
abbrev B1R:Type:=Bool
noncomputable def B8x:FD:=⟨154,Tryz.f154,14,⟨[],[],[]⟩,⟨[(0, .d (.ag (.pr (.ag (.pr .bo .st)) .st)))],[]⟩,⟨[(0, .d .bo)],[]⟩,[.d .bo],B1R,fun o=>((o,()),()),fun s=>s.1.1⟩
noncomputable def D5j (F:TQ→Option B1R):FE:=B8x.fe fun s=>F s.1.1
abbrev B0Q:Type:=TQ
noncomputable def B9N:FD:=⟨157,Tryz.f157,18,⟨[],[],[]⟩,⟨[(0, .d (.ag (.pr (.ag (.pr .bo .st)) .st)))],[]⟩,⟨[(0, .d (.ag (.pr (.ag (.pr .bo .st)) .st)))],[]⟩,[.d (.ag (.pr (.ag (.pr .bo .st)) .st))],B0Q,fun o=>(((o.1,o.2),()),()),fun s=>(s.1.1.1,s.1.1.2)⟩
noncomputable def D1r (F:TQ→Option B0Q):FE:=B9N.fe fun s=>F s.1.1
abbrev A6G:Type:=TQ
noncomputable def B8I:FD:=⟨159,Tryz.f159,5,⟨[],[],[]⟩,⟨[(0, .d (.ag (.pr .bo .st)))],[]⟩,⟨[(0, .d (.ag (.pr (.ag (.pr .bo .st)) .st)))],[]⟩,[.d (.ag (.pr (.ag (.pr .bo .st)) .st))],A6G,fun o=>(((o.1,o.2),()),()),fun s=>(s.1.1.1,s.1.1.2)⟩
noncomputable def D0N (F:TI→Option A6G):FE:=B8I.fe fun s=>F s.1.1
abbrev A9q:Type:=TI
noncomputable def B9m:FD:=⟨160,Tryz.f160,40,⟨[],[],[]⟩,⟨[(0, .d (.ag (.pr .bo .st))),(1, .d (.ag (.pr .bo .st)))],[]⟩,⟨[(0, .d (.ag (.pr .bo .st)))],[]⟩,[.d (.ag (.pr .bo .st))],A9q,fun o=>(((o.1,o.2),()),()),fun s=>(s.1.1.1,s.1.1.2)⟩
noncomputable def D8A (F:TI→TI→Option A9q):FE:=B9m.fe fun s=>F s.1.1 s.1.2.1
abbrev A5m:Type:=TI
noncomputable def C0E:FD:=⟨161,Tryz.f161,16,⟨[],[],[]⟩,⟨[(0, .d (.ag (.pr .bo .st))),(1, .d (.ag (.pr .bo .st)))],[]⟩,⟨[(0, .d (.ag (.pr .bo .st)))],[]⟩,[.d (.ag (.pr .bo .st))],A5m,fun o=>(((o.1,o.2),()),()),fun s=>(s.1.1.1,s.1.1.2)⟩
noncomputable def C5s (F:TI→TI→Option A5m):FE:=C0E.fe fun s=>F s.1.1 s.1.2.1
abbrev A6P:Type:=TI
noncomputable def B6l:FD:=⟨162,Tryz.f162,6,⟨[],[],[]⟩,⟨[(0, .d (.ag (.pr (.ag (.pr .bo .st)) .st)))],[]⟩,⟨[(0, .d (.ag (.pr .bo .st)))],[]⟩,[.d (.ag (.pr .bo .st))],A6P,fun o=>(((o.1,o.2),()),()),fun s=>(s.1.1.1,s.1.1.2)⟩
noncomputable def C9T (F:TQ→Option A6P):FE:=B6l.fe fun s=>F s.1.1
abbrev A5h:Type:=TQ
noncomputable def B6d:FD:=⟨163,Tryz.f163,42,⟨[],[],[]⟩,⟨[(0, .d (.ag (.pr .bo .st))),(1, .d (.ag (.pr .bo .st)))],[]⟩,⟨[(0, .d (.ag (.pr (.ag (.pr .bo .st)) .st)))],[]⟩,[.d (.ag (.pr (.ag (.pr .bo .st)) .st))],A5h,fun o=>(((o.1,o.2),()),()),fun s=>(s.1.1.1,s.1.1.2)⟩
noncomputable def D0Z (F:TI→TI→Option A5h):FE:=B6d.fe fun s=>F s.1.1 s.1.2.1
abbrev A3z:Type:=(List TQ)
noncomputable def B8d:FD:=⟨165,Tryz.f165,14,⟨[],[],[]⟩,⟨[(0, .d (.li (.ag (.pr (.ag (.pr .bo .st)) .st)))),(1, .d (.li (.ag (.pr (.ag (.pr .bo .st)) .st))))],[]⟩,⟨[(0, .d (.li (.ag (.pr (.ag (.pr .bo .st)) .st))))],[]⟩,[.d (.li (.ag (.pr (.ag (.pr .bo .st)) .st)))],A3z,fun o=>((o,()),()),fun s=>s.1.1⟩
noncomputable def B7K (F:(List TQ)→(List TQ)→Option A3z):FE:=B8d.fe fun s=>F s.1.1 s.1.2.1
abbrev o4:Type:=(List TQ)
noncomputable def A9d:FD:=⟨166,Tryz.f166,31,⟨[(3,[(0, .any),(1, .any),(5, .any),(14, .any),(15, .any)])],[],[]⟩,⟨[(0, .d (.li (.ag (.pr (.ag (.pr .bo .st)) .st)))),(1, .d (.li (.ag (.pr (.ag (.pr .bo .st)) .st))))],[]⟩,⟨[(0, .d (.li (.ag (.pr (.ag (.pr .bo .st)) .st))))],[]⟩,[.d (.li (.ag (.pr (.ag (.pr .bo .st)) .st)))],o4,fun o=>((o,()),()),fun s=>s.1.1⟩
noncomputable def C0r (F:(List TQ)→(List TQ)→Option o4):FE:=A9d.fe fun s=>F s.1.1 s.1.2.1
abbrev B2j:Type:=(List TQ)
noncomputable def B9o:FD:=⟨167,Tryz.f167,14,⟨[],[],[]⟩,⟨[(0, .d (.li (.ag (.pr (.ag (.pr .bo .st)) .st)))),(1, .d (.li (.ag (.pr (.ag (.pr .bo .st)) .st))))],[]⟩,⟨[(0, .d (.li (.ag (.pr (.ag (.pr .bo .st)) .st))))],[]⟩,[.d (.li (.ag (.pr (.ag (.pr .bo .st)) .st)))],B2j,fun o=>((o,()),()),fun s=>s.1.1⟩
noncomputable def D6K (F:(List TQ)→(List TQ)→Option B2j):FE:=B9o.fe fun s=>F s.1.1 s.1.2.1
abbrev B2J:Type:=Bool
noncomputable def C0i:FD:=⟨170,Tryz.f170,6,⟨[],[],[]⟩,⟨[(0, .d (.ag (.pr (.ag (.pr .bo .st)) .st)))],[]⟩,⟨[(0, .d .bo)],[]⟩,[.d .bo],B2J,fun o=>((o,()),()),fun s=>s.1.1⟩
noncomputable def D9I (F:TQ→Option B2J):FE:=C0i.fe fun s=>F s.1.1
abbrev B0v:Type:=Bool
noncomputable def B8X:FD:=⟨171,Tryz.f171,6,⟨[],[],[]⟩,⟨[(0, .d (.ag (.pr (.ag (.pr .bo .st)) .st)))],[]⟩,⟨[(0, .d .bo)],[]⟩,[.d .bo],B0v,fun o=>((o,()),()),fun s=>s.1.1⟩
noncomputable def D9C (F:TQ→Option B0v):FE:=B8X.fe fun s=>F s.1.1
abbrev B0A:Type:=Int
noncomputable def B8j:FD:=⟨172,Tryz.f172,44,⟨[],[],[]⟩,⟨[(0, .d (.ag (.pr (.ag (.pr .bo .st)) .st)))],[]⟩,⟨[(0, .d (.it .i64))],[]⟩,[.d (.it .i64)],B0A,fun o=>((o,()),()),fun s=>s.1.1⟩
noncomputable def D9D (F:TQ→Option B0A):FE:=B8j.fe fun s=>F s.1.1
abbrev A9k:Type:=Int
noncomputable def C0k:FD:=⟨173,Tryz.f173,10,⟨[],[],[]⟩,⟨[(0, .d (.ag (.pr .bo .st)))],[]⟩,⟨[(0, .d (.it .i64))],[]⟩,[.d (.it .i64)],A9k,fun o=>((o,()),()),fun s=>s.1.1⟩
noncomputable def D2A (F:TI→Option A9k):FE:=C0k.fe fun s=>F s.1.1
abbrev A6h:Type:=(List TQ)
noncomputable def B7s:FD:=⟨174,Tryz.f174,13,⟨[],[],[]⟩,⟨[(0, .d (.li (.li (.ag (.pr (.ag (.pr .bo .st)) .st))))),(1, .d (.it .i64))],[]⟩,⟨[(0, .d (.li (.ag (.pr (.ag (.pr .bo .st)) .st))))],[]⟩,[.d (.li (.ag (.pr (.ag (.pr .bo .st)) .st)))],A6h,fun o=>((o,()),()),fun s=>s.1.1⟩
noncomputable def C9q (F:(List (List TQ))→Int→Option A6h):FE:=B7s.fe fun s=>F s.1.1 s.1.2.1
abbrev B2r:Type:=Bool
noncomputable def C0o:FD:=⟨175,Tryz.f175,9,⟨[],[],[]⟩,⟨[(0, .d (.li (.li (.ag (.pr (.ag (.pr .bo .st)) .st))))),(1, .f (.cl 176 []))],[]⟩,⟨[(0, .d .bo)],[]⟩,[.d .bo],B2r,fun o=>((o,()),()),fun s=>s.1.1⟩
noncomputable def D1b (F:(List (List TQ))→Option B2r):FE:=C0o.fe fun s=>F s.1.1
abbrev A9x:Type:=Bool
noncomputable def B8z:FD:=⟨176,Tryz.f176,5,⟨[],[],[]⟩,⟨[(0, .d (.li (.ag (.pr (.ag (.pr .bo .st)) .st))))],[]⟩,⟨[(0, .d .bo)],[]⟩,[.d .bo],A9x,fun o=>((o,()),()),fun s=>s.1.1⟩
noncomputable def D6h (F:(List TQ)→Option A9x):FE:=B8z.fe fun s=>F s.1.1
abbrev B1A:Type:=Bool
noncomputable def B9f:FD:=⟨177,Tryz.f177,16,⟨[],[],[]⟩,⟨[(0, .d (.ag (.pr .bo .st)))],[]⟩,⟨[(0, .d .bo)],[]⟩,[.d .bo],B1A,fun o=>((o,()),()),fun s=>s.1.1⟩
noncomputable def D4w (F:TI→Option B1A):FE:=B9f.fe fun s=>F s.1.1
abbrev A6s:Type:=Bool
noncomputable def B9d:FD:=⟨178,Tryz.f178,10,⟨[],[],[]⟩,⟨[(0, .d .st)],[]⟩,⟨[(0, .d .bo)],[]⟩,[.d .bo],A6s,fun o=>((o,()),()),fun s=>s.1.1⟩
noncomputable def C1D (F:ByteArray→Option A6s):FE:=B9d.fe fun s=>F s.1.1
abbrev B2m:Type:=Int
noncomputable def B7e:FD:=⟨179,Tryz.f179,10,⟨[],[],[]⟩,⟨[(0, .d (.ag (.pr (.ag (.pr .bo .st)) .st)))],[]⟩,⟨[(0, .d (.it .i64))],[]⟩,[.d (.it .i64)],B2m,fun o=>((o,()),()),fun s=>s.1.1⟩
noncomputable def D8P (F:TQ→Option B2m):FE:=B7e.fe fun s=>F s.1.1
abbrev A0H:Type:=ByteArray
noncomputable def B2Q:FD:=⟨180,Tryz.f180,18,⟨[(1,[(0, .any),(1, .any)])],[],[]⟩,⟨[(0, .d .st),(1, .d .st)],[]⟩,⟨[(0, .d .st)],[]⟩,[.d .st],A0H,fun o=>((o,()),()),fun s=>s.1.1⟩
noncomputable def C1t (F:ByteArray→ByteArray→Option A0H):FE:=B2Q.fe fun s=>F s.1.1 s.1.2.1
abbrev B1P:Type:=ByteArray
noncomputable def B8E:FD:=⟨183,Tryz.f183,9,⟨[],[],[]⟩,⟨[(0, .d (.it .u64))],[]⟩,⟨[(0, .d .st)],[]⟩,[.d .st],B1P,fun o=>((o,()),()),fun s=>s.1.1⟩
noncomputable def D1j (F:Int→Option B1P):FE:=B8E.fe fun s=>F s.1.1
abbrev B0P:Type:=TI
noncomputable def C0m:FD:=⟨184,Tryz.f184,16,⟨[],[],[]⟩,⟨[(0, .d (.ag (.pr .bo .st))),(1, .d (.ag (.pr .bo .st)))],[]⟩,⟨[(0, .d (.ag (.pr .bo .st)))],[]⟩,[.d (.ag (.pr .bo .st))],B0P,fun o=>(((o.1,o.2),()),()),fun s=>(s.1.1.1,s.1.1.2)⟩
noncomputable def D9V (F:TI→TI→Option B0P):FE:=C0m.fe fun s=>F s.1.1 s.1.2.1
abbrev A6Y:Type:=TQ
noncomputable def B8c:FD:=⟨185,Tryz.f185,40,⟨[],[],[]⟩,⟨[(0, .d (.ag (.pr .bo .st))),(1, .d (.ag (.pr .bo .st)))],[]⟩,⟨[(0, .d (.ag (.pr (.ag (.pr .bo .st)) .st)))],[]⟩,[.d (.ag (.pr (.ag (.pr .bo .st)) .st))],A6Y,fun o=>(((o.1,o.2),()),()),fun s=>(s.1.1.1,s.1.1.2)⟩
noncomputable def C5N (F:TI→TI→Option A6Y):FE:=B8c.fe fun s=>F s.1.1 s.1.2.1
abbrev A3a:Type:=ByteArray
noncomputable def C0N:FD:=⟨186,Tryz.f186,11,⟨[],[],[]⟩,⟨[(0, .d .st),(1, .d .st)],[]⟩,⟨[(0, .d .st)],[]⟩,[.d .st],A3a,fun o=>((o,()),()),fun s=>s.1.1⟩
noncomputable def B8n (F:ByteArray→ByteArray→Option A3a):FE:=C0N.fe fun s=>F s.1.1 s.1.2.1
abbrev B2i:Type:=TI
noncomputable def B9R:FD:=⟨187,Tryz.f187,17,⟨[],[],[]⟩,⟨[(0, .d (.ag (.pr .bo .st))),(1, .d (.it .i64))],[]⟩,⟨[(0, .d (.ag (.pr .bo .st)))],[]⟩,[.d (.ag (.pr .bo .st))],B2i,fun o=>(((o.1,o.2),()),()),fun s=>(s.1.1.1,s.1.1.2)⟩
noncomputable def D7R (F:TI→Int→Option B2i):FE:=B9R.fe fun s=>F s.1.1 s.1.2.1
abbrev A0i:Type:=ByteArray
noncomputable def B1Z:FD:=⟨188,Tryz.f188,25,⟨[(2,[(1, .any),(5, .val (.li (.it .u64))),(6, .val (.li (.it .u64)))])],[],[]⟩,⟨[(0, .d .st),(1, .d (.it .i64))],[]⟩,⟨[(0, .d .st)],[]⟩,[.d .st],A0i,fun o=>((o,()),()),fun s=>s.1.1⟩
noncomputable def C6T (F:ByteArray→Int→Option A0i):FE:=B1Z.fe fun s=>F s.1.1 s.1.2.1
abbrev B5c:Type:=(List TQ)
noncomputable def E1u:FD:=⟨189,Tryz.f189,0,⟨[],[],[]⟩,⟨[(0, .d (.li (.ag (.pr (.ag (.pr .bo .st)) .st))))],[]⟩,⟨[(0, .f (.a (.ref 3000)))],[(3000, .own (.ag (.pr (.ag (.pr .bo .st)) .st)) true)]⟩,[],B5c,fun o=>((),(o,())),fun s=>s.2.1⟩
noncomputable def D8S (F:(List TQ)→Option B5c):FE:=E1u.fe fun s=>F s.1.1
abbrev B6f:Type:=(List TQ)
noncomputable def B9b:FD:=⟨189,Tryz.f189,8,⟨[],[],[]⟩,⟨[(0, .nv false (.ag (.pr (.ag (.pr .bo .st)) .st)))],[]⟩,⟨[(0, .f (.a (.ref 3000)))],[(3000, .own (.ag (.pr (.ag (.pr .bo .st)) .st)) true)]⟩,[.own (.ag (.pr (.ag (.pr .bo .st)) .st))],B6f,fun o=>((),(o,())),fun s=>s.2.1⟩
noncomputable def F7X (F:(List TQ)→Option B6f):FE:=B9b.fe fun s=>F s.1.1
abbrev B7G:Type:=(List TQ)
noncomputable def B5t:FD:=⟨189,Tryz.f189,8,⟨[],[],[]⟩,⟨[(0, .nv true (.ag (.pr (.ag (.pr .bo .st)) .st)))],[]⟩,⟨[(0, .f (.a (.ref 3000)))],[(3000, .own (.ag (.pr (.ag (.pr .bo .st)) .st)) true)]⟩,[.own (.ag (.pr (.ag (.pr .bo .st)) .st))],B7G,fun o=>((),(o,())),fun s=>s.2.1⟩
noncomputable def E4Z (F:(List TQ)→Option B7G):FE:=B5t.fe fun s=>F s.1.1
abbrev B2I:Type:=TI
noncomputable def B5z:FD:=⟨190,Tryz.f190,9,⟨[],[],[]⟩,⟨[(0, .d (.ag (.pr .bo .st)))],[]⟩,⟨[(0, .d (.ag (.pr .bo .st)))],[]⟩,[.d (.ag (.pr .bo .st))],B2I,fun o=>(((o.1,o.2),()),()),fun s=>(s.1.1.1,s.1.1.2)⟩
noncomputable def D9B (F:TI→Option B2I):FE:=B5z.fe fun s=>F s.1.1
abbrev B2D:Type:=TI
noncomputable def B8p:FD:=⟨191,Tryz.f191,42,⟨[],[],[]⟩,⟨[(0, .d (.ag (.pr .bo .st))),(1, .d (.ag (.pr .bo .st)))],[]⟩,⟨[(0, .d (.ag (.pr .bo .st)))],[]⟩,[.d (.ag (.pr .bo .st))],B2D,fun o=>(((o.1,o.2),()),()),fun s=>(s.1.1.1,s.1.1.2)⟩
noncomputable def D7z (F:TI→TI→Option B2D):FE:=B8p.fe fun s=>F s.1.1 s.1.2.1
abbrev i4:Type:=TI
noncomputable def B6x:FD:=⟨192,Tryz.f192,12,⟨[],[],[]⟩,⟨[(0, .d .bo),(1, .d .st)],[]⟩,⟨[(0, .d (.ag (.pr .bo .st)))],[]⟩,[.d (.ag (.pr .bo .st))],i4,fun o=>(((o.1,o.2),()),()),fun s=>(s.1.1.1,s.1.1.2)⟩
noncomputable def A7Y (F:Bool→ByteArray→Option i4):FE:=B6x.fe fun s=>F s.1.1 s.1.2.1
abbrev B1j:Type:=ByteArray
noncomputable def B7p:FD:=⟨193,Tryz.f193,6,⟨[],[],[]⟩,⟨[(0, .d (.it .u64))],[]⟩,⟨[(0, .d .st)],[]⟩,[.d .st],B1j,fun o=>((o,()),()),fun s=>s.1.1⟩
noncomputable def D4i (F:Int→Option B1j):FE:=B7p.fe fun s=>F s.1.1
abbrev A2p:Type:=Int
noncomputable def B1n:FD:=⟨194,Tryz.f194,19,⟨[(2,[(0, .any),(1, .any),(7, .any),(8, .any)])],[],[]⟩,⟨[(0, .d (.li (.ag (.pr (.ag (.pr .bo .st)) .st)))),(1, .f (.cl 170 []))],[]⟩,⟨[(0, .d (.it .i64))],[]⟩,[.d (.it .i64)],A2p,fun o=>((o,()),()),fun s=>s.1.1⟩
noncomputable def D5a (F:(List TQ)→Option A2p):FE:=B1n.fe fun s=>F s.1.1
abbrev A2e:Type:=Int
noncomputable def B2T:FD:=⟨194,Tryz.f194,19,⟨[(2,[(0, .any),(1, .any),(7, .any),(8, .any)])],[],[]⟩,⟨[(0, .d (.li (.ag (.pr (.ag (.pr .bo .st)) .st)))),(1, .f (.cl 154 []))],[]⟩,⟨[(0, .d (.it .i64))],[]⟩,[.d (.it .i64)],A2e,fun o=>((o,()),()),fun s=>s.1.1⟩
noncomputable def D5w (F:(List TQ)→Option A2e):FE:=B2T.fe fun s=>F s.1.1
abbrev A3G:Type:=TI
noncomputable def B9e:FD:=⟨198,Tryz.f198,12,⟨[],[],[]⟩,⟨[(0, .d .bo),(1, .d .st)],[]⟩,⟨[(0, .d (.ag (.pr .bo .st)))],[]⟩,[.d (.ag (.pr .bo .st))],A3G,fun o=>(((o.1,o.2),()),()),fun s=>(s.1.1.1,s.1.1.2)⟩
noncomputable def B9a (F:Bool→ByteArray→Option A3G):FE:=B9e.fe fun s=>F s.1.1 s.1.2.1
abbrev A2q:Type:=ByteArray
noncomputable def B2d:FD:=⟨199,Tryz.f199,61,⟨[(5,[(5, .any),(6, .any),(7, .own (.it .u64)),(8, .any),(9, .any)])],[],[]⟩,⟨[(0, .d .st),(1, .d .st)],[]⟩,⟨[(0, .d .st)],[]⟩,[.d .st],A2q,fun o=>((o,()),()),fun s=>s.1.1⟩
noncomputable def D1a (F:ByteArray→ByteArray→Option A2q):FE:=B2d.fe fun s=>F s.1.1 s.1.2.1
abbrev A6N:Type:=Int
noncomputable def C0l:FD:=⟨200,Tryz.f200,27,⟨[],[],[]⟩,⟨[(0, .d .st),(1, .d .st)],[]⟩,⟨[(0, .d (.it .i64))],[]⟩,[.d (.it .i64)],A6N,fun o=>((o,()),()),fun s=>s.1.1⟩
noncomputable def C2j (F:ByteArray→ByteArray→Option A6N):FE:=C0l.fe fun s=>F s.1.1 s.1.2.1
abbrev A2B:Type:=ByteArray
noncomputable def A9h:FD:=⟨201,Tryz.f201,60,⟨[(6,[(5, .any),(6, .any),(7, .any),(8, .any)])],[],[]⟩,⟨[(0, .d .st),(1, .d .st)],[]⟩,⟨[(0, .d .st)],[]⟩,[.d .st],A2B,fun o=>((o,()),()),fun s=>s.1.1⟩
noncomputable def D8y (F:ByteArray→ByteArray→Option A2B):FE:=A9h.fe fun s=>F s.1.1 s.1.2.1
abbrev q9:Type:=ByteArray
noncomputable def A6W:FD:=⟨202,Tryz.f202,70,⟨[(4,[(5, .any),(6, .any),(7, .any),(8, .any)]),(8,[(5, .any),(6, .any),(7, .any),(8, .any),(9, .any),(10, .any)])],[],[]⟩,⟨[(0, .d .st),(1, .d .st)],[]⟩,⟨[(0, .d .st)],[]⟩,[.d .st],q9,fun o=>((o,()),()),fun s=>s.1.1⟩
noncomputable def D2U (F:ByteArray→ByteArray→Option q9):FE:=A6W.fe fun s=>F s.1.1 s.1.2.1
abbrev T5:Type:=(ByteArray×ByteArray)
noncomputable def A4D:FD:=⟨203,Tryz.f203,148,⟨[(8,[(7, .val (.li (.it .u64))),(8, .any),(9, .any),(10, .any),(11, .any)]),(10,[(7, .any),(8, .any),(9, .any),(10, .any),(11, .any)]),(15,[(7, .val (.li (.it .u64))),(8, .any),(9, .any),(10, .any),(11, .any),(12, .any),(13, .any),(14, .any)])],[],[]⟩,⟨[(0, .d .st),(1, .d .st)],[]⟩,⟨[(0, .d .st),(1, .d .st)],[]⟩,[.d .st, .d .st],T5,fun o=>((o.1,o.2,()),()),fun s=>(s.1.1,s.1.2.1)⟩
noncomputable def C9i (F:ByteArray→ByteArray→Option T5):FE:=A4D.fe fun s=>F s.1.1 s.1.2.1
abbrev A2d:Type:=((List TQ)×(List TQ))
noncomputable def B0q:FD:=⟨210,Tryz.f210,37,⟨[(3,[(1, .any),(6, .val (.li (.ag (.pr (.ag (.pr .bo .st)) .st)))),(7, .any)])],[],[]⟩,⟨[(0, .d (.li (.ag (.pr (.ag (.pr .bo .st)) .st)))),(1, .d (.li (.ag (.pr (.ag (.pr .bo .st)) .st))))],[]⟩,⟨[(0, .d (.li (.ag (.pr (.ag (.pr .bo .st)) .st)))),(1, .d (.li (.ag (.pr (.ag (.pr .bo .st)) .st))))],[]⟩,[.d (.li (.ag (.pr (.ag (.pr .bo .st)) .st))), .d (.li (.ag (.pr (.ag (.pr .bo .st)) .st)))],A2d,fun o=>((o.1,o.2,()),()),fun s=>(s.1.1,s.1.2.1)⟩
noncomputable def D7b (F:(List TQ)→(List TQ)→Option A2d):FE:=B0q.fe fun s=>F s.1.1 s.1.2.1
abbrev B0h:Type:=Int
noncomputable def B7h:FD:=⟨213,Tryz.f213,21,⟨[],[],[]⟩,⟨[(0, .d (.ag (.pr .bo .st)))],[]⟩,⟨[(0, .d (.it .i64))],[]⟩,[.d (.it .i64)],B0h,fun o=>((o,()),()),fun s=>s.1.1⟩
noncomputable def D5s (F:TI→Option B0h):FE:=B7h.fe fun s=>F s.1.1
abbrev A5u:Type:=Int
noncomputable def B8r:FD:=⟨214,Tryz.f214,14,⟨[],[],[]⟩,⟨[(0, .d .st)],[]⟩,⟨[(0, .d (.it .i64))],[]⟩,[.d (.it .i64)],A5u,fun o=>((o,()),()),fun s=>s.1.1⟩
noncomputable def C7y (F:ByteArray→Option A5u):FE:=B8r.fe fun s=>F s.1.1
abbrev z5:Type:=ByteArray
noncomputable def B2g:FD:=⟨215,Tryz.f215,26,⟨[(2,[(5, .val (.li (.it .u64))),(6, .val (.li (.it .u64)))])],[],[]⟩,⟨[(0, .d .st),(1, .d .st)],[]⟩,⟨[(0, .d .st)],[]⟩,[.d .st],z5,fun o=>((o,()),()),fun s=>s.1.1⟩
noncomputable def D0F (F:ByteArray→ByteArray→Option z5):FE:=B2g.fe fun s=>F s.1.1 s.1.2.1
abbrev A2v:Type:=Int
noncomputable def B0n:FD:=⟨216,Tryz.f216,19,⟨[(2,[(0, .any),(1, .any),(7, .any),(8, .any)])],[],[]⟩,⟨[(0, .d (.li (.li (.ag (.pr (.ag (.pr .bo .st)) .st))))),(1, .f (.cl 176 []))],[]⟩,⟨[(0, .d (.it .i64))],[]⟩,[.d (.it .i64)],A2v,fun o=>((o,()),()),fun s=>s.1.1⟩
noncomputable def D5P (F:(List (List TQ))→Option A2v):FE:=B0n.fe fun s=>F s.1.1
abbrev B1o:Type:=Int
noncomputable def B9y:FD:=⟨217,Tryz.f217,6,⟨[],[],[]⟩,⟨[(0, .d (.ag (.pr .bo .st)))],[]⟩,⟨[(0, .d (.it .i64))],[]⟩,[.d (.it .i64)],B1o,fun o=>((o,()),()),fun s=>s.1.1⟩
noncomputable def D9F (F:TI→Option B1o):FE:=B9y.fe fun s=>F s.1.1
abbrev A6j:Type:=Int
noncomputable def B6C:FD:=⟨218,Tryz.f218,6,⟨[],[],[]⟩,⟨[(0, .d .st)],[]⟩,⟨[(0, .d (.it .i64))],[]⟩,[.d (.it .i64)],A6j,fun o=>((o,()),()),fun s=>s.1.1⟩
noncomputable def C3z (F:ByteArray→Option A6j):FE:=B6C.fe fun s=>F s.1.1
abbrev Q8:Type:=ByteArray
noncomputable def A6u:FD:=⟨221,Tryz.f221,38,⟨[(3,[(0, .any),(3, .own (.it .u8)),(4, .any)]),(6,[(0, .any),(3, .own (.it .u8)),(4, .any),(5, .any)])],[],[]⟩,⟨[(0, .d (.li (.it .u64)))],[]⟩,⟨[(0, .d .st)],[]⟩,[.d .st],Q8,fun o=>((o,()),()),fun s=>s.1.1⟩
noncomputable def A9e (F:(List Int)→Option Q8):FE:=A6u.fe fun s=>F s.1.1
abbrev B0K:Type:=(ByteArray×ByteArray)
noncomputable def C0R:FD:=⟨222,Tryz.f222,20,⟨[],[],[]⟩,⟨[(0, .d .st),(1, .d .st)],[]⟩,⟨[(0, .d .st),(1, .d .st)],[]⟩,[.d .st, .d .st],B0K,fun o=>((o.1,o.2,()),()),fun s=>(s.1.1,s.1.2.1)⟩
noncomputable def D6j (F:ByteArray→ByteArray→Option B0K):FE:=C0R.fe fun s=>F s.1.1 s.1.2.1
abbrev K8:Type:=ByteArray
noncomputable def A4E:FD:=⟨223,Tryz.f223,55,⟨[(6,[(3, .any),(17, .any),(18, .any),(19, .any)]),(9,[(3, .any),(4, .any),(5, .any),(17, .any),(18, .any),(19, .any),(24, .any)]),(15,[(3, .any),(7, .any)])],[],[]⟩,⟨[(0, .d (.li (.it .u64)))],[]⟩,⟨[(0, .d .st)],[]⟩,[.d .st],K8,fun o=>((o,()),()),fun s=>s.1.1⟩
noncomputable def A6t (F:(List Int)→Option K8):FE:=A4E.fe fun s=>F s.1.1
abbrev e9:Type:=(List Int)
noncomputable def A6X:FD:=⟨224,Tryz.f224,80,⟨[(3,[(1, .any),(5, .any),(20, .any),(21, .any),(22, .any)]),(7,[(1, .any),(5, .any),(6, .any),(7, .any),(8, .any),(20, .any),(21, .any),(22, .any),(27, .any),(28, .any),(29, .any)])],[],[]⟩,⟨[(0, .d (.li (.it .u64))),(1, .d (.li (.it .u64)))],[]⟩,⟨[(0, .d (.li (.it .u64)))],[]⟩,[.d (.li (.it .u64))],e9,fun o=>((o,()),()),fun s=>s.1.1⟩
noncomputable def C6s (F:(List Int)→(List Int)→Option e9):FE:=A6X.fe fun s=>F s.1.1 s.1.2.1
abbrev V4:Type:=(List Int)
noncomputable def B2X:FD:=⟨225,Tryz.f225,39,⟨[(3,[(0, .any),(3, .any),(12, .any),(13, .any)])],[],[]⟩,⟨[(0, .d .st)],[]⟩,⟨[(0, .f (.a (.ref 3000)))],[(3000, .own (.it .u64) true)]⟩,[.own (.it .u64)],V4,fun o=>((),(o,())),fun s=>s.2.1⟩
noncomputable def A8B (F:ByteArray→Option V4):FE:=B2X.fe fun s=>F s.1.1
abbrev A2H:Type:=ByteArray
noncomputable def B2R:FD:=⟨226,Tryz.f226,60,⟨[(7,[(5, .any),(6, .any),(7, .any),(8, .any),(27, .any),(28, .any)])],[],[]⟩,⟨[(0, .d .st),(1, .d .st)],[]⟩,⟨[(0, .d .st)],[]⟩,[.d .st],A2H,fun o=>((o,()),()),fun s=>s.1.1⟩
noncomputable def D1T (F:ByteArray→ByteArray→Option A2H):FE:=B2R.fe fun s=>F s.1.1 s.1.2.1
abbrev B0O:Type:=Int
noncomputable def C0Y:FD:=⟨227,Tryz.f227,27,⟨[],[],[]⟩,⟨[(0, .d .st),(1, .d .st)],[]⟩,⟨[(0, .d (.it .i64))],[]⟩,[.d (.it .i64)],B0O,fun o=>((o,()),()),fun s=>s.1.1⟩
noncomputable def D8c (F:ByteArray→ByteArray→Option B0O):FE:=C0Y.fe fun s=>F s.1.1 s.1.2.1
abbrev A2r:Type:=ByteArray
noncomputable def B0t:FD:=⟨228,Tryz.f228,43,⟨[(4,[(5, .any),(6, .any),(7, .any),(15, .any),(16, .any)])],[],[]⟩,⟨[(0, .d .st),(1, .d .st)],[]⟩,⟨[(0, .d .st)],[]⟩,[.d .st],A2r,fun o=>((o,()),()),fun s=>s.1.1⟩
noncomputable def D9Y (F:ByteArray→ByteArray→Option A2r):FE:=B0t.fe fun s=>F s.1.1 s.1.2.1
abbrev T4:Type:=(List Int)
noncomputable def A6b:FD:=⟨229,Tryz.f229,34,⟨[(3,[(0, .any),(3, .own (.it .u64)),(4, .any)]),(7,[(0, .any),(3, .any),(4, .any),(5, .any),(6, .any)])],[],[]⟩,⟨[(0, .d .st)],[]⟩,⟨[(0, .f (.a (.ref 3000)))],[(3000, .own (.it .u64) true)]⟩,[.own (.it .u64)],T4,fun o=>((),(o,())),fun s=>s.2.1⟩
noncomputable def B3a (F:ByteArray→Option T4):FE:=A6b.fe fun s=>F s.1.1
abbrev A2U:Type:=(Bool×(List Int))
noncomputable def B1L:FD:=⟨230,Tryz.f230,43,⟨[(5,[(0, .pt),(1, .any),(5, .any)])],[],[]⟩,⟨[(0, .f (.a (.ref 2000))),(1, .d (.li (.it .u64)))],[(2000, .own (.it .u64) false)]⟩,⟨[(0, .d .bo)],[(2000, .own (.it .u64) false)]⟩,[.d .bo],A2U,fun o=>((o.1,()),(o.2,())),fun s=>(s.1.1,s.2.1)⟩
noncomputable def D9L (F:(List Int)→(List Int)→Option A2U):FE:=B1L.fe fun s=>F s.1.1 s.2.1
abbrev B2l:Type:=TI
noncomputable def B6J:FD:=⟨243,Tryz.f243,2,⟨[],[],[]⟩,⟨[],[]⟩,⟨[(0, .d (.ag (.pr .bo .st)))],[]⟩,[.d (.ag (.pr .bo .st))],B2l,fun o=>(((o.1,o.2),()),()),fun s=>(s.1.1.1,s.1.1.2)⟩
noncomputable def D8b (F:Option B2l):FE:=B6J.fe fun s=>F
abbrev V3:Type:=((List Int)×(List Int))
noncomputable def A3D:FD:=⟨244,Tryz.f244,137,⟨[(7,[(0, .any),(1, .any),(6, .any),(7, .any),(8, .any)]),(17,[(9, .any),(10, .val (.li (.it .u64))),(11, .any),(12, .any),(13, .any),(14, .any)]),(21,[(9, .any),(11, .any),(12, .any),(13, .any),(96, .any),(97, .any)])],[],[]⟩,⟨[(0, .d (.li (.it .u64))),(1, .d (.li (.it .u64)))],[]⟩,⟨[(0, .d (.li (.it .u64))),(1, .d (.li (.it .u64)))],[]⟩,[.d (.li (.it .u64)), .d (.li (.it .u64))],V3,fun o=>((o.1,o.2,()),()),fun s=>(s.1.1,s.1.2.1)⟩
noncomputable def C2t (F:(List Int)→(List Int)→Option V3):FE:=A3D.fe fun s=>F s.1.1 s.1.2.1
abbrev m6:Type:=(Int×(List Int))
noncomputable def B2k:FD:=⟨245,Tryz.f245,21,⟨[(2,[(0, .any),(3, .any)])],[],[]⟩,⟨[(0, .f (.a (.ref 2000)))],[(2000, .own (.it .u64) false)]⟩,⟨[(0, .pre 2000)],[(2000, .own (.it .u64) false)]⟩,[.sh],m6,fun o=>((o.1,()),(o.2,())),fun s=>(s.1.1,s.2.1)⟩
noncomputable def B7L (F:(List Int)→Option m6):FE:=B2k.fe fun s=>F s.2.1
abbrev A1k:Type:=(List Int)
noncomputable def A9n:FD:=⟨245,Tryz.f245,21,⟨[(2,[(0, .any),(3, .any)])],[],[]⟩,⟨[(0, .d (.li (.it .u64)))],[]⟩,⟨[(0, .d (.li (.it .u64)))],[]⟩,[.sh],A1k,fun o=>((o,()),()),fun s=>s.1.1⟩
noncomputable def D2t (F:(List Int)→Option A1k):FE:=A9n.fe fun s=>F s.1.1
abbrev A6c:Type:=(Int×Int)
noncomputable def B6i:FD:=⟨246,Tryz.f246,51,⟨[],[],[]⟩,⟨[(0, .d (.it .u64)),(1, .d (.it .u64))],[]⟩,⟨[(0, .d (.it .u64)),(1, .d (.it .u64))],[]⟩,[.d (.it .u64), .d (.it .u64)],A6c,fun o=>((o.1,o.2,()),()),fun s=>(s.1.1,s.1.2.1)⟩
noncomputable def C4R (F:Int→Int→Option A6c):FE:=B6i.fe fun s=>F s.1.1 s.1.2.1
abbrev A4Z:Type:=(Int×Int)
noncomputable def E4R:FD:=⟨247,Tryz.f247,0,⟨[],[],[]⟩,⟨[(0, .d (.it .u64)),(1, .d (.it .u64)),(2, .d (.it .u64))],[]⟩,⟨[(0, .d (.it .u64)),(1, .d (.it .u64))],[]⟩,[],A4Z,fun o=>((o.1,o.2,()),()),fun s=>(s.1.1,s.1.2.1)⟩
noncomputable def C0P (F:Int→Int→Int→Option A4Z):FE:=E4R.fe fun s=>F s.1.1 s.1.2.1 s.1.2.2.1
abbrev A7A:Type:=(Int×Int)
noncomputable def F7w:FD:=⟨248,Tryz.f248,0,⟨[],[],[]⟩,⟨[(0, .d (.it .u64)),(1, .d (.it .u64)),(2, .d (.it .u64))],[]⟩,⟨[(0, .d (.it .u64)),(1, .d (.it .u64))],[]⟩,[],A7A,fun o=>((o.1,o.2,()),()),fun s=>(s.1.1,s.1.2.1)⟩
noncomputable def C7B (F:Int→Int→Int→Option A7A):FE:=F7w.fe fun s=>F s.1.1 s.1.2.1 s.1.2.2.1
abbrev A0j:Type:=(Int×(List Int))
noncomputable def B2O:FD:=⟨249,Tryz.f249,21,⟨[(1,[(0, .pt)])],[],[]⟩,⟨[(0, .f (.a (.ref 2000)))],[(2000, .own (.it .u64) false)]⟩,⟨[(0, .pre 2000)],[(2000, .own (.it .u64) false)]⟩,[.sh],A0j,fun o=>((o.1,()),(o.2,())),fun s=>(s.1.1,s.2.1)⟩
noncomputable def C3o (F:(List Int)→Option A0j):FE:=B2O.fe fun s=>F s.2.1
abbrev A2A:Type:=Int
noncomputable def B1V:FD:=⟨276,Tryz.f276,41,⟨[(6,[(0, .any),(1, .any),(5, .any)])],[],[]⟩,⟨[(0, .d (.li (.it .u64))),(1, .d (.li (.it .u64)))],[]⟩,⟨[(0, .d (.it .i64))],[]⟩,[.d (.it .i64)],A2A,fun o=>((o,()),()),fun s=>s.1.1⟩
noncomputable def D3U (F:(List Int)→(List Int)→Option A2A):FE:=B1V.fe fun s=>F s.1.1 s.1.2.1
abbrev f9:Type:=(Int×Int)
noncomputable def A6U:FD:=⟨277,Tryz.f277,135,⟨[(17,[(2, .any),(8, .any),(9, .any),(10, .any),(11, .any),(13, .any),(14, .any),(15, .any),(16, .any)]),(24,[(2, .any),(8, .any),(9, .any),(10, .any),(14, .any),(15, .any),(16, .any),(17, .any),(18, .any)])],[],[]⟩,⟨[(0, .d (.it .u64)),(1, .d (.it .u64)),(2, .d (.it .u64))],[]⟩,⟨[(0, .d (.it .u64)),(1, .d (.it .u64))],[]⟩,[.d (.it .u64), .d (.it .u64)],f9,fun o=>((o.1,o.2,()),()),fun s=>(s.1.1,s.1.2.1)⟩
noncomputable def C6L (F:Int→Int→Int→Option f9):FE:=A6U.fe fun s=>F s.1.1 s.1.2.1 s.1.2.2.1
abbrev A6K:Type:=Int
noncomputable def B8W:FD:=⟨278,Tryz.f278,6,⟨[],[],[]⟩,⟨[(0, .d (.it .u64))],[]⟩,⟨[(0, .d (.it .i64))],[]⟩,[.d (.it .i64)],A6K,fun o=>((o,()),()),fun s=>s.1.1⟩
noncomputable def C1v (F:Int→Option A6K):FE:=B8W.fe fun s=>F s.1.1
abbrev A2u:Type:=(List Int)
noncomputable def A9r:FD:=⟨279,Tryz.f279,40,⟨[(3,[(1, .any),(5, .any),(12, .any),(13, .any),(14, .any)])],[],[]⟩,⟨[(0, .d (.li (.it .u64))),(1, .d (.it .i64))],[]⟩,⟨[(0, .f (.a (.ref 3000)))],[(3000, .own (.it .u64) true)]⟩,[.own (.it .u64)],A2u,fun o=>((),(o,())),fun s=>s.2.1⟩
noncomputable def D3i (F:(List Int)→Int→Option A2u):FE:=A9r.fe fun s=>F s.1.1 s.1.2.1
abbrev X1:Type:=(Int×(List Int))
noncomputable def A4A:FD:=⟨280,Tryz.f280,186,⟨[(8,[(0, .any),(1, .any),(5, .any),(6, .any),(7, .any),(8, .any)]),(15,[(0, .any),(1, .any),(5, .any),(6, .any),(11, .any),(12, .any),(104, .any),(105, .any)]),(28,[(0, .any),(1, .any),(5, .any),(6, .any),(17, .any),(156, .any),(157, .any)])],[],[]⟩,⟨[(0, .f (.a (.ref 2000))),(1, .d (.li (.it .u64)))],[(2000, .own (.it .u64) false)]⟩,⟨[(0, .d (.it .u64))],[(2000, .own (.it .u64) false)]⟩,[.d (.it .u64)],X1,fun o=>((o.1,()),(o.2,())),fun s=>(s.1.1,s.2.1)⟩
noncomputable def D7N (F:(List Int)→(List Int)→Option X1):FE:=A4A.fe fun s=>F s.1.1 s.2.1
abbrev B4X:Type:=Int
noncomputable def D6u:FD:=⟨297,Tryz.f297,25,⟨[],[],[]⟩,⟨[(0, .d (.it .u64))],[]⟩,⟨[(0, .d (.it .i64))],[]⟩,[.d (.it .i64)],B4X,fun o=>((o,()),()),fun s=>s.1.1⟩
noncomputable def D1d (F:Int→Option B4X):FE:=D6u.fe fun s=>F s.1.1
noncomputable def B15 (x0:(List TQ)):Option R15:=some (wrap64 ((x0.length:Int)-1))
theorem e15 (s:D15.ask.T):D15.ev E0 [] [] s=B15 s.1.1:=by kernel_rfl
noncomputable def C3S (x0:TI):Option A9k:=B3 (x0.1) (some (-1)) (B3 ((E4 x0.2 (⟨#[]⟩:ByteArray))) (some 0) (some 1))
theorem E5v (s:C0k.ask.T):C0k.ev E0 [] [] s=C3S s.1.1:=by kernel_rfl
noncomputable def D2V (c173:TI→Option A9k):List FE:=[D2A c173]
section
variable (c173:TI→Option A9k)
noncomputable def B4S (x0:TQ):Option A5Y:=(c173 x0.1).bind fun r1=>(some r1)
theorem E7g (s:C0T.ask.T):C0T.ev E0 (D2V c173) [] s=B4S c173 s.1.1:=by kernel_rfl
end
noncomputable def C1T (x0:ByteArray):Option A6s:=B3 ((E4 x0 (⟨#[]⟩:ByteArray))) (some true) (if(0:Int)≤0 then(if 0<(x0.size:Int)then(some (decide (bt x0 0≠0)))else(none))else(none))
theorem E8l (s:B9d.ask.T):B9d.ev E0 [] [] s=C1T s.1.1:=by kernel_rfl
noncomputable def D7j (c178:ByteArray→Option A6s):List FE:=[C1D c178]
section
variable (c178:ByteArray→Option A6s)
noncomputable def C3s (x0:TI):Option B1A:=(c178 x0.2).bind fun r1=>(B3 (r1) (B3 ((!x0.1)) (some true) (some (!(E4 x0.2 (⟨#[]⟩:ByteArray))))) (some false))
theorem F7p (s:B9f.ask.T):B9f.ev E0 (D7j c178) [] s=C3s c178 s.1.1:=by kernel_rfl
end
noncomputable def C9C (x0:ByteArray):Option A6j:=if(x0.size:Int)>1024 then(some 4)else(some 0)
theorem F5Z (s:B6C.ask.T):B6C.ev E0 [] [] s=C9C s.1.1:=by kernel_rfl
noncomputable def D5L (c218:ByteArray→Option A6j):List FE:=[C3z c218]
section
variable (c218:ByteArray→Option A6j)
noncomputable def C6g (x0:TI):Option B1o:=(c218 x0.2).bind fun r1=>(some r1)
theorem E6P (s:B9y.ask.T):B9y.ev E0 (D5L c218) [] s=C6g c218 s.1.1:=by kernel_rfl
end
noncomputable def D8R (c217:TI→Option B1o) (c218:ByteArray→Option A6j):List FE:=[D9F c217,C3z c218]
section
variable (c217:TI→Option B1o) (c218:ByteArray→Option A6j)
noncomputable def B0d (x0:TQ):Option B2m:=(c217 x0.1).bind fun r1=>(if r1≠0 then(some 4)else((c218 x0.2).bind fun r2=>(some r2)))
theorem F4F (s:B7e.ask.T):B7e.ev E0 (D8R c217 c218) [] s=B0d c217 c218 s.1.1:=by kernel_rfl
end
noncomputable def C8v:Sk:=⟨[(0, .d (.li (.it .u64))),(3, .f (.a (.ref 3))),(4, .d (.it .i64))],[(3, .own (.it .u8) true)]⟩
noncomputable def C2C:Sk:=⟨[(0, .d (.li (.it .u64))),(3, .f (.a (.ref 3))),(4, .d (.it .i64)),(5, .d (.it .i64))],[(3, .own (.it .u8) true)]⟩
noncomputable def B7S (gl0:(List Int)→Int→(List Int)→Option Q8) (gl1:(List Int)→Int→Int→(List Int)→Option Q8):List (C7 Q8):=[⟨3,C8v,fun s=>gl0 s.1.1 s.1.2.1 s.2.1⟩,⟨6,C2C,fun s=>gl1 s.1.1 s.1.2.1 s.1.2.2.1 s.2.1⟩]
section
variable (gl0:(List Int)→Int→(List Int)→Option Q8) (gl1:(List Int)→Int→Int→(List Int)→Option Q8)
noncomputable def C1y (x0:(List Int)) (x4:Int) (x3:(List Int)):Option Q8:=if x4≥0 then(gl1 x0 x4 24 x3)else(some (strOfNums x3))
theorem E0M (s0:C5 A6u.ask.bl) (s:C8v.T):A6u.po E0 [] (B7S gl0 gl1) s0 0 (C8v.mk' s)=C1y gl1 s.1.1 s.1.2.1 s.2.1:=by kernel_rfl
noncomputable def C1q (x0:(List Int)) (x4:Int) (x5:Int) (x3:(List Int)):Option Q8:=if x5≥0 then(if 0≤x4 then(if x4<(x0.length:Int)then(if 0≤x5 then(if(x3.length:Int)>0 then(if(x3.length+1)*1≤140737488355328 then(gl1 x0 x4 (wrap64 (x5-8)) (x3++([IntKind.u8.wrap (shr .u64 (rd x0 x4) x5)]:List Int)))else(none))else(if IntKind.u8.wrap (shr .u64 (rd x0 x4) x5)>0 then(if(x3.length+1)*1≤140737488355328 then(gl1 x0 x4 (wrap64 (x5-8)) (x3++([IntKind.u8.wrap (shr .u64 (rd x0 x4) x5)]:List Int)))else(none))else(gl1 x0 x4 (wrap64 (x5-8)) x3)))else(none))else(none))else(none))else(gl0 x0 (wrap64 (x4-1)) x3)
theorem E5y (s0:C5 A6u.ask.bl) (s:C2C.T):A6u.po E0 [] (B7S gl0 gl1) s0 1 (C2C.mk' s)=C1q gl0 gl1 s.1.1 s.1.2.1 s.1.2.2.1 s.2.1:=by kernel_rfl
noncomputable def D0U (x0:(List Int)):Option Q8:=gl0 x0 (wrap64 ((x0.length:Int)-1)) ([]:List Int)
theorem E7E (s:A6u.ask.T):A6u.ev E0 [] (B7S gl0 gl1) s=D0U gl0 s.1.1:=by kernel_rfl
end
noncomputable def C9g:Sk:=⟨[(0, .pre 2000)],[(2000, .own (.it .u64) false)]⟩
noncomputable def C3m (gl0:Int→(List Int)→Option A0j):List (C7 A0j):=[⟨1,C9g,fun s=>gl0 s.1.1 s.2.1⟩]
section
variable (gl0:Int→(List Int)→Option A0j)
noncomputable def C6U (x0:Int) (y0:(List Int)):Option A0j:=if x0-0>0 then(if 0≤wrap64 ((x0-0)-1)then(if wrap64 ((x0-0)-1)<x0-0 then(if rd y0 (0+(wrap64 ((x0-0)-1)))=0 then(if(0:Int)≤0 then(if 0≤wrap64 ((x0-0)-1)then(if wrap64 ((x0-0)-1)≤x0-0 then(if x0-0≤x0-0 then(gl0 (0+(wrap64 ((x0-0)-1))) y0)else(none))else(none))else(none))else(none))else(some (x0,y0)))else(none))else(none))else(some (x0,y0))
theorem F0K (s0:C5 B2O.ask.bl) (s:C9g.T):B2O.po E0 [] (C3m gl0) s0 0 (C9g.mk' s)=C6U gl0 s.1.1 s.2.1:=by kernel_rfl
noncomputable def C7p (y0:(List Int)):Option A0j:=gl0 (y0.length:Int) y0
theorem E1P (s:B2O.ask.T):B2O.ev E0 [] (C3m gl0) s=C7p gl0 s.2.1:=by kernel_rfl
end
noncomputable def C8y:Sk:=⟨[(0, .d .st),(3, .f (.a (.ref 3))),(4, .d (.it .i64))],[(3, .own (.it .u64) true)]⟩
noncomputable def C8w:Sk:=⟨[(0, .d .st),(3, .f (.a (.ref 3))),(4, .d (.it .i64)),(5, .d (.it .u64)),(6, .d (.it .i64))],[(3, .own (.it .u64) true)]⟩
noncomputable def C0g (gl0:ByteArray→Int→(List Int)→Option T4) (gl1:ByteArray→Int→Int→Int→(List Int)→Option T4):List (C7 T4):=[⟨3,C8y,fun s=>gl0 s.1.1 s.1.2.1 s.2.1⟩,⟨7,C8w,fun s=>gl1 s.1.1 s.1.2.1 s.1.2.2.1 s.1.2.2.2.1 s.2.1⟩]
noncomputable def B7T (c249:(List Int)→Option A0j):List FE:=[C3o c249]
section
variable (gl0:ByteArray→Int→(List Int)→Option T4) (gl1:ByteArray→Int→Int→Int→(List Int)→Option T4) (c249:(List Int)→Option A0j)
noncomputable def D0R (x0:ByteArray) (x4:Int) (x3:(List Int)):Option T4:=if x4>0 then(gl1 x0 x4 0 (mx 0 (wrap64 (x4-4))) x3)else((c249 x3).bind fun r1=>(some (r1.2.take (r1.1:Int).toNat)))
theorem F5T (s0:C5 A6b.ask.bl) (s:C8y.T):A6b.po E0 (B7T c249) (C0g gl0 gl1) s0 0 (C8y.mk' s)=D0R gl1 c249 s.1.1 s.1.2.1 s.2.1:=by kernel_rfl
noncomputable def C9J (x0:ByteArray) (x4:Int) (x5:Int) (x6:Int) (x3:(List Int)):Option T4:=if x6<x4 then(if 0≤x6 then(if x6<(x0.size:Int)then(gl1 x0 x4 (IntKind.u64.wrap ((IntKind.u64.wrap (x5*256))+(IntKind.u64.wrap (bt x0 x6)))) (wrap64 (x6+1)) x3)else(none))else(none))else(if(x3.length+1)*8≤140737488355328 then(gl0 x0 (wrap64 (x4-4)) (x3++([x5]:List Int)))else(none))
theorem E4Q (s0:C5 A6b.ask.bl) (s:C8w.T):A6b.po E0 (B7T c249) (C0g gl0 gl1) s0 1 (C8w.mk' s)=C9J gl0 gl1 s.1.1 s.1.2.1 s.1.2.2.1 s.1.2.2.2.1 s.2.1:=by kernel_rfl
noncomputable def D0i (x0:ByteArray):Option T4:=gl0 x0 (x0.size:Int) ([]:List Int)
theorem E4z (s:A6b.ask.T):A6b.ev E0 (B7T c249) (C0g gl0 gl1) s=D0i gl0 s.1.1:=by kernel_rfl
end
noncomputable def C8b:Sk:=⟨[(0, .pre 2000),(1, .d (.li (.it .u64))),(5, .d (.it .i64))],[(2000, .own (.it .u64) false)]⟩
noncomputable def C1f (gl0:Int→(List Int)→Int→(List Int)→Option A2U):List (C7 A2U):=[⟨5,C8b,fun s=>gl0 s.1.1 s.1.2.1 s.1.2.2.1 s.2.1⟩]
noncomputable def D0I (c249:(List Int)→Option A0j):List FE:=[C3o c249]
section
variable (gl0:Int→(List Int)→Int→(List Int)→Option A2U) (c249:(List Int)→Option A0j)
noncomputable def C8z (x0:Int) (x1:(List Int)) (x5:Int) (y0:(List Int)):Option A2U:=if x5≥0 then(if 0≤x5 then(if x5<x0-0 then(if 0≤x5 then(if x5<(x1.length:Int)then(if rd y0 (0+x5)≠rd x1 x5 then(if 0≤x5 then(if x5<x0-0 then(if 0≤x5 then(if x5<(x1.length:Int)then(some (decide (rd y0 (0+x5)<rd x1 x5),y0))else(none))else(none))else(none))else(none))else(gl0 x0 x1 (wrap64 (x5-1)) y0))else(none))else(none))else(none))else(none))else(some (false,y0))
theorem E1E (s0:C5 B1L.ask.bl) (s:C8b.T):B1L.po E0 (D0I c249) (C1f gl0) s0 0 (C8b.mk' s)=C8z gl0 s.1.1 s.1.2.1 s.1.2.2.1 s.2.1:=by kernel_rfl
noncomputable def C4Q (x1:(List Int)) (y0:(List Int)):Option A2U:=(c249 y0).bind fun r1=>(if r1.1-0≠(x1.length:Int)then(some (decide (r1.1-0<(x1.length:Int)),r1.2))else(gl0 r1.1 x1 (wrap64 ((r1.1-0)-1)) r1.2))
theorem E7W (s:B1L.ask.T):B1L.ev E0 (D0I c249) (C1f gl0) s=C4Q gl0 c249 s.1.1 s.2.1:=by kernel_rfl
end
noncomputable def C3a:Sk:=⟨[(7, .d (.li (.it .u64))),(8, .d (.it .i64)),(9, .f (.a (.ref 9))),(10, .f (.a (.ref 10))),(11, .d (.it .i64))],[(9, .own (.it .u64) true),(10, .own (.it .u64) true)]⟩
noncomputable def C2g:Sk:=⟨[(7, .d (.li (.it .u64))),(8, .d (.it .i64)),(9, .f (.a (.ref 9))),(10, .f (.a (.ref 10))),(11, .d (.it .i64))],[(9, .own (.it .u64) true),(10, .own (.it .u64) true)]⟩
noncomputable def C4V:Sk:=⟨[(7, .d (.li (.it .u64))),(8, .d (.it .i64)),(9, .f (.a (.ref 9))),(10, .f (.a (.ref 10))),(11, .d (.it .i64)),(12, .d (.it .u64)),(13, .d (.it .u64)),(14, .d (.it .i64))],[(9, .own (.it .u64) true),(10, .own (.it .u64) true)]⟩
noncomputable def B5Y (gl0:(List Int)→Int→Int→(List Int)→(List Int)→Option T5) (gl1:(List Int)→Int→Int→(List Int)→(List Int)→Option T5) (gl2:(List Int)→Int→Int→Int→Int→Int→(List Int)→(List Int)→Option T5):List (C7 T5):=[⟨8,C3a,fun s=>gl0 s.1.1 s.1.2.1 s.1.2.2.1 s.2.1 s.2.2.1⟩,⟨10,C2g,fun s=>gl1 s.1.1 s.1.2.1 s.1.2.2.1 s.2.1 s.2.2.1⟩,⟨15,C4V,fun s=>gl2 s.1.1 s.1.2.1 s.1.2.2.1 s.1.2.2.2.1 s.1.2.2.2.2.1 s.1.2.2.2.2.2.1 s.2.1 s.2.2.1⟩]
noncomputable def B5I (c221:(List Int)→Option Q8) (c229:ByteArray→Option T4) (c230:(List Int)→(List Int)→Option A2U):List FE:=[A9e c221,B3a c229,D9L c230]
section
variable (gl0:(List Int)→Int→Int→(List Int)→(List Int)→Option T5) (gl1:(List Int)→Int→Int→(List Int)→(List Int)→Option T5) (gl2:(List Int)→Int→Int→Int→Int→Int→(List Int)→(List Int)→Option T5) (c221:(List Int)→Option Q8) (c229:ByteArray→Option T4) (c230:(List Int)→(List Int)→Option A2U)
noncomputable def C8e (x7:(List Int)) (x8:Int) (x11:Int) (x9:(List Int)) (x10:(List Int)):Option T5:=if x11≥0 then(gl1 x7 x8 x11 x9 x10)else((c221 x10).bind fun r1=>((c221 x9).bind fun r2=>(some (r1,r2))))
theorem E9C (s0:C5 A4D.ask.bl) (s:C3a.T):A4D.po E0 (B5I c221 c229 c230) (B5Y gl0 gl1 gl2) s0 0 (C3a.mk' s)=C8e gl1 c221 s.1.1 s.1.2.1 s.1.2.2.1 s.2.1 s.2.2.1:=by kernel_rfl
noncomputable def C5X (x7:(List Int)) (x8:Int) (x11:Int) (x9:(List Int)) (x10:(List Int)):Option T5:=if 0≤x11 then(if x11≤(x9.length:Int)then(if(x9.length:Int)≤(x9.length:Int)then(if(x9.length:Int)≤(x9.length:Int)then((c230 x7 (slice_ x9 x11 (x9.length:Int))).bind fun r1=>(B3 ((!r1.1)) (if 0≤wrap64 (x11+x8)then(if wrap64 (x11+x8)<((x9.take ((x11:Int).toNat)++r1.2++x9.drop (((x9.length:Int):Int).toNat)).length:Int)then(if(0:Int)≤32 then(if 0≤wrap64 ((wrap64 (x11+x8))-1)then(if wrap64 ((wrap64 (x11+x8))-1)<((x9.take ((x11:Int).toNat)++r1.2++x9.drop (((x9.length:Int):Int).toNat)).length:Int)then(if 0≤wrap64 (x8-1)then(if wrap64 (x8-1)<(x7.length:Int)then(if IntKind.u64.wrap ((rd x7 (wrap64 (x8-1)))+1)=0 then(none)else(if 0≤x11 then(if x11<(x10.length:Int)then(if 0≤x11 then(if x11<(x10.length:Int)then(gl2 x7 x8 x11 (mx 1 (IntKind.u64.wrap (Int.tdiv (IntKind.u64.wrap ((IntKind.u64.wrap ((rd (x9.take ((x11:Int).toNat)++r1.2++x9.drop (((x9.length:Int):Int).toNat)) (wrap64 (x11+x8)))*4294967296))+(rd (x9.take ((x11:Int).toNat)++r1.2++x9.drop (((x9.length:Int):Int).toNat)) (wrap64 ((wrap64 (x11+x8))-1))))) (IntKind.u64.wrap ((rd x7 (wrap64 (x8-1)))+1))))) 0 0 (x9.take ((x11:Int).toNat)++r1.2++x9.drop (((x9.length:Int):Int).toNat)) (x10.set (x11:Int).toNat (IntKind.u64.wrap ((rd x10 x11)+(mx 1 (IntKind.u64.wrap (Int.tdiv (IntKind.u64.wrap ((IntKind.u64.wrap ((rd (x9.take ((x11:Int).toNat)++r1.2++x9.drop (((x9.length:Int):Int).toNat)) (wrap64 (x11+x8)))*4294967296))+(rd (x9.take ((x11:Int).toNat)++r1.2++x9.drop (((x9.length:Int):Int).toNat)) (wrap64 ((wrap64 (x11+x8))-1))))) (IntKind.u64.wrap ((rd x7 (wrap64 (x8-1)))+1)))))))))else(none))else(none))else(none))else(none)))else(none))else(none))else(none))else(none))else(none))else(none))else(none)) (gl0 x7 x8 (wrap64 (x11-1)) (x9.take ((x11:Int).toNat)++r1.2++x9.drop (((x9.length:Int):Int).toNat)) x10)))else(none))else(none))else(none))else(none)
theorem E3E (s0:C5 A4D.ask.bl) (s:C2g.T):A4D.po E0 (B5I c221 c229 c230) (B5Y gl0 gl1 gl2) s0 1 (C2g.mk' s)=C5X gl0 gl2 c230 s.1.1 s.1.2.1 s.1.2.2.1 s.2.1 s.2.2.1:=by kernel_rfl
noncomputable def C7W (x7:(List Int)) (x8:Int) (x11:Int) (x12:Int) (x13:Int) (x14:Int) (x9:(List Int)) (x10:(List Int)):Option T5:=if x14<x8 then(if 0≤x14 then(if x14<(x7.length:Int)then(if(0:Int)≤32 then(if 0≤wrap64 (x11+x14)then(if wrap64 (x11+x14)<(x9.length:Int)then(if rd x9 (wrap64 (x11+x14))<Go.bits .and .u64 (IntKind.u64.wrap ((IntKind.u64.wrap ((rd x7 x14)*x12))+x13)) 4294967295 then(if 0≤wrap64 (x11+x14)then(if wrap64 (x11+x14)<(x9.length:Int)then(if 0≤wrap64 (x11+x14)then(if wrap64 (x11+x14)<(x9.length:Int)then(if 0≤wrap64 (x11+x14)then(if wrap64 (x11+x14)<((x9.set (wrap64 (x11+x14):Int).toNat (IntKind.u64.wrap ((rd x9 (wrap64 (x11+x14)))+4294967296))).length:Int)then(if 0≤wrap64 (x11+x14)then(if wrap64 (x11+x14)<((x9.set (wrap64 (x11+x14):Int).toNat (IntKind.u64.wrap ((rd x9 (wrap64 (x11+x14)))+4294967296))).length:Int)then(gl2 x7 x8 x11 x12 (IntKind.u64.wrap (((IntKind.u64.wrap ((IntKind.u64.wrap ((rd x7 x14)*x12))+x13))/4294967296)+1)) (wrap64 (x14+1)) ((x9.set (wrap64 (x11+x14):Int).toNat (IntKind.u64.wrap ((rd x9 (wrap64 (x11+x14)))+4294967296))).set (wrap64 (x11+x14):Int).toNat (IntKind.u64.wrap ((rd (x9.set (wrap64 (x11+x14):Int).toNat (IntKind.u64.wrap ((rd x9 (wrap64 (x11+x14)))+4294967296))) (wrap64 (x11+x14)))-(Go.bits .and .u64 (IntKind.u64.wrap ((IntKind.u64.wrap ((rd x7 x14)*x12))+x13)) 4294967295)))) x10)else(none))else(none))else(none))else(none))else(none))else(none))else(none))else(none))else(if 0≤wrap64 (x11+x14)then(if wrap64 (x11+x14)<(x9.length:Int)then(if 0≤wrap64 (x11+x14)then(if wrap64 (x11+x14)<(x9.length:Int)then(gl2 x7 x8 x11 x12 ((IntKind.u64.wrap ((IntKind.u64.wrap ((rd x7 x14)*x12))+x13))/4294967296) (wrap64 (x14+1)) (x9.set (wrap64 (x11+x14):Int).toNat (IntKind.u64.wrap ((rd x9 (wrap64 (x11+x14)))-(Go.bits .and .u64 (IntKind.u64.wrap ((IntKind.u64.wrap ((rd x7 x14)*x12))+x13)) 4294967295)))) x10)else(none))else(none))else(none))else(none)))else(none))else(none))else(none))else(none))else(none))else(if 0≤wrap64 (x11+x8)then(if wrap64 (x11+x8)<(x9.length:Int)then(if 0≤wrap64 (x11+x8)then(if wrap64 (x11+x8)<(x9.length:Int)then(gl1 x7 x8 x11 (x9.set (wrap64 (x11+x8):Int).toNat (IntKind.u64.wrap ((rd x9 (wrap64 (x11+x8)))-x13))) x10)else(none))else(none))else(none))else(none))
theorem E9U (s0:C5 A4D.ask.bl) (s:C4V.T):A4D.po E0 (B5I c221 c229 c230) (B5Y gl0 gl1 gl2) s0 2 (C4V.mk' s)=C7W gl1 gl2 s.1.1 s.1.2.1 s.1.2.2.1 s.1.2.2.2.1 s.1.2.2.2.2.1 s.1.2.2.2.2.2.1 s.2.1 s.2.2.1:=by kernel_rfl
noncomputable def C7v (x0:ByteArray) (x1:ByteArray):Option T5:=B3 ((E4 x1 (⟨#[]⟩:ByteArray))) (some ((⟨#[]⟩:ByteArray),(⟨#[]⟩:ByteArray))) ((c229 x0).bind fun r1=>((c229 x1).bind fun r2=>(if(r1.length+1)*8≤140737488355328 then(if 0≤mx 0 (wrap64 ((wrap64 ((r1.length:Int)-(r2.length:Int)))+1))then(if mx 0 (wrap64 ((wrap64 ((r1.length:Int)-(r2.length:Int)))+1))≤mx 0 (wrap64 ((wrap64 ((r1.length:Int)-(r2.length:Int)))+1))then(if(mx 0 (wrap64 ((wrap64 ((r1.length:Int)-(r2.length:Int)))+1)):Int).toNat≤35184372088832 then(gl0 r2 (r2.length:Int) (wrap64 (((List.replicate (mx 0 (wrap64 ((wrap64 ((r1.length:Int)-(r2.length:Int)))+1)):Int).toNat (0:Int)).length:Int)-1)) (r1++([0]:List Int)) (List.replicate (mx 0 (wrap64 ((wrap64 ((r1.length:Int)-(r2.length:Int)))+1)):Int).toNat (0:Int)))else(none))else(none))else(none))else(none))))
theorem E6t (s:A4D.ask.T):A4D.ev E0 (B5I c221 c229 c230) (B5Y gl0 gl1 gl2) s=C7v gl0 c229 s.1.1 s.1.2.1:=by kernel_rfl
end
noncomputable def C6i:Sk:=⟨[(0, .d .st),(1, .d .st)],[]⟩
noncomputable def C3k (gl0:ByteArray→ByteArray→Option A0H):List (C7 A0H):=[⟨1,C6i,fun s=>gl0 s.1.1 s.1.2.1⟩]
noncomputable def C8s (c203:ByteArray→ByteArray→Option T5):List FE:=[C9i c203]
section
variable (gl0:ByteArray→ByteArray→Option A0H) (c203:ByteArray→ByteArray→Option T5)
noncomputable def C4D (x0:ByteArray) (x1:ByteArray):Option A0H:=B3 ((!(E4 x1 (⟨#[]⟩:ByteArray)))) ((c203 x0 x1).bind fun r1=>(gl0 x1 r1.2)) (some x0)
theorem E5G (s0:C5 B2Q.ask.bl) (s:C6i.T):B2Q.po E0 (C8s c203) (C3k gl0) s0 0 (C6i.mk' s)=C4D gl0 c203 s.1.1 s.1.2.1:=by kernel_rfl
noncomputable def C8L (x0:ByteArray) (x1:ByteArray):Option A0H:=gl0 x0 x1
theorem E1p (s:B2Q.ask.T):B2Q.ev E0 (C8s c203) (C3k gl0) s=C8L gl0 s.1.1 s.1.2.1:=by kernel_rfl
end
noncomputable def D8t (c177:TI→Option B1A) (c178:ByteArray→Option A6s) (c179:TQ→Option B2m) (c180:ByteArray→ByteArray→Option A0H):List FE:=[D4w c177,C1D c178,D8P c179,C1t c180]
section
variable (c177:TI→Option B1A) (c178:ByteArray→Option A6s) (c179:TQ→Option B2m) (c180:ByteArray→ByteArray→Option A0H)
noncomputable def A4X (x0:TQ):Option A6d:=(c177 x0.1).bind fun r1=>(B3 ((!r1)) (some 1) ((c178 x0.2).bind fun r2=>(B3 ((!r2)) (some 1) (B3 ((E4 x0.2 (⟨#[]⟩:ByteArray))) (some 1) ((c179 x0).bind fun r3=>(if r3≠0 then(some 4)else((c180 x0.1.2 x0.2).bind fun r4=>(B3 ((!(E4 r4 (⟨#[1]⟩:ByteArray)))) (some 1) (some 0)))))))))
theorem F7r (s:C0d.ask.T):C0d.ev E0 (D8t c177 c178 c179 c180) [] s=A4X c177 c178 c179 c180 s.1.1:=by kernel_rfl
end
noncomputable def C6E:Sk:=⟨[(0, .d (.li (.ag (.pr (.ag (.pr .bo .st)) .st)))),(9, .d (.li (.ag (.pr (.ag (.pr .bo .st)) .st)))),(10, .d (.it .i64)),(11, .d (.it .i64))],[]⟩
noncomputable def C6R (gl0:(List TQ)→(List TQ)→Int→Int→Option o9):List (C7 o9):=[⟨4,C6E,fun s=>gl0 s.1.1 s.1.2.1 s.1.2.2.1 s.1.2.2.2.1⟩]
noncomputable def C9s (c123:TQ→Option A5Y) (c135:TQ→Option A6d):List FE:=[C1u c123,C8E c135]
section
variable (gl0:(List TQ)→(List TQ)→Int→Int→Option o9) (c123:TQ→Option A5Y) (c135:TQ→Option A6d)
noncomputable def A9F (x0:(List TQ)) (x9:(List TQ)) (x10:Int) (x11:Int):Option o9:=if x11<x10 then(if 0≤x11 then(if x11<(x9.length:Int)then((c135 (C4 ((false,(⟨#[]⟩:ByteArray)),(⟨#[]⟩:ByteArray)) x9 x11)).bind fun r1=>(if r1≠0 then(some r1)else(gl0 x0 x9 x10 (wrap64 (x11+1)))))else(none))else(none))else(if(x0.length:Int)>0 then(if 0≤wrap64 ((x0.length:Int)-1)then(if wrap64 ((x0.length:Int)-1)<(x0.length:Int)then((c123 (C4 ((false,(⟨#[]⟩:ByteArray)),(⟨#[]⟩:ByteArray)) x0 (wrap64 ((x0.length:Int)-1)))).bind fun r2=>(if r2=0 then(some 1)else(some 0)))else(none))else(none))else(some 0))
theorem E7C (s0:C5 D69.ask.bl) (s:C6E.T):D69.po E0 (C9s c123 c135) (C6R gl0) s0 0 (C6E.mk' s)=A9F gl0 c123 c135 s.1.1 s.1.2.1 s.1.2.2.1 s.1.2.2.2.1:=by kernel_rfl
noncomputable def B69 (x0:(List TQ)):Option o9:=if(x0.length:Int)>65 then(some 4)else(gl0 x0 x0 (x0.length:Int) 0)
theorem e69 (s:D69.ask.T):D69.ev E0 (C9s c123 c135) (C6R gl0) s=B69 gl0 s.1.1:=by kernel_rfl
end
noncomputable def D6G (c221:(List Int)→Option Q8):List FE:=[A9e c221]
section
variable (c221:(List Int)→Option Q8)
noncomputable def C4F (x0:Int):Option B1P:=if(0:Int)≤32 then((c221 ([Go.bits .and .u64 x0 4294967295,x0/4294967296]:List Int)).bind fun r1=>(some r1))else(none)
theorem E6F (s:B8E.ask.T):B8E.ev E0 (D6G c221) [] s=C4F c221 s.1.1:=by kernel_rfl
end
noncomputable def D1L (c183:Int→Option B1P):List FE:=[D1j c183]
section
variable (c183:Int→Option B1P)
noncomputable def C5Z (x0:Int):Option B1e:=if x0<0 then((c183 (IntKind.u64.wrap ((IntKind.u64.wrap (wrap64 (0-(wrap64 (x0+1)))))+1))).bind fun r1=>(some (true,r1)))else((c183 (IntKind.u64.wrap (x0))).bind fun r2=>(some (false,r2)))
theorem F5J (s:B6W.ask.T):B6W.ev E0 (D1L c183) [] s=C5Z c183 s.1.1:=by kernel_rfl
end
noncomputable def D1P (c141:Int→Option B1e):List FE:=[D2q c141]
section
variable (c141:Int→Option B1e)
noncomputable def B81 (x0:Int):Option Y4:=(c141 x0).bind fun r1=>(some ((r1.1,r1.2),(⟨#[1]⟩:ByteArray)))
theorem e81 (s:D81.ask.T):D81.ev E0 (D1P c141) [] s=B81 c141 s.1.1:=by kernel_rfl
end
noncomputable def D3c (c81:Int→Option Y4):List FE:=[A6D c81]
section
variable (c81:Int→Option Y4)
noncomputable def B80 (x0:(List TQ)):Option R80:=if(x0.length:Int)=0 then((c81 0).bind fun r1=>(some (r1.1,r1.2)))else(if 0≤wrap64 ((x0.length:Int)-1)then(if wrap64 ((x0.length:Int)-1)<(x0.length:Int)then(some ((C4 ((false,(⟨#[]⟩:ByteArray)),(⟨#[]⟩:ByteArray)) x0 (wrap64 ((x0.length:Int)-1))).1,(C4 ((false,(⟨#[]⟩:ByteArray)),(⟨#[]⟩:ByteArray)) x0 (wrap64 ((x0.length:Int)-1))).2))else(none))else(none))
theorem e80 (s:D80.ask.T):D80.ev E0 (D3c c81) [] s=B80 c81 s.1.1:=by kernel_rfl
end
noncomputable def B82 (x0:TQ):Option R82:=some (E4 x0.2 (⟨#[1]⟩:ByteArray))
theorem e82 (s:D82.ask.T):D82.ev E0 [] [] s=B82 s.1.1:=by kernel_rfl
noncomputable def C3x:Sk:=⟨[(1, .f (.a (.ptr 1 0 []))),(24, .d (.li (.ag (.pr (.ag (.pr .bo .st)) .st)))),(25, .d (.it .i64)),(26, .d (.it .i64))],[(1, .cell (.ag (.li (.ag (.pr (.ag (.pr .bo .st)) .st)))) true)]⟩
noncomputable def C2S (gl0:(List TQ)→Int→Int→(List TQ)→Option W0):List (C7 W0):=[⟨7,C3x,fun s=>gl0 s.1.1 s.1.2.1 s.1.2.2.1 s.2.1⟩]
noncomputable def C5V (c15:(List TQ)→Option R15) (c69:(List TQ)→Option o9) (c80:(List TQ)→Option R80) (c81:Int→Option Y4) (c82:TQ→Option R82):List FE:=[C0F c15,C0G c69,C7C c80,A6D c81,D6N c82]
section
variable (gl0:(List TQ)→Int→Int→(List TQ)→Option W0) (c15:(List TQ)→Option R15) (c69:(List TQ)→Option o9) (c80:(List TQ)→Option R80) (c81:Int→Option Y4) (c82:TQ→Option R82)
noncomputable def A6w (x24:(List TQ)) (x25:Int) (x26:Int) (x1:(List TQ)):Option W0:=if x26<x25 then(if 0≤x26 then(if x26<(x24.length:Int)then((c82 (C4 ((false,(⟨#[]⟩:ByteArray)),(⟨#[]⟩:ByteArray)) x24 x26)).bind fun r1=>(B3 ((!r1)) (some 1) (gl0 x24 x25 (wrap64 (x26+1)) x1)))else(none))else(none))else((c15 x1).bind fun r2=>(if r2>24 then(some 4)else(some 0)))
theorem F2I (s0:C5 D13.ask.bl) (s:C3x.T):D13.po E0 (C5V c15 c69 c80 c81 c82) (C2S gl0) s0 0 (C3x.mk' s)=A6w gl0 c15 c82 s.1.1 s.1.2.1 s.1.2.2.1 s.2.1:=by kernel_rfl
noncomputable def B13 (x0:(List TQ)):Option W0:=(c69 x0).bind fun r1=>(if r1≠0 then(some r1)else(if(x0.length:Int)<2 then(some 1)else((c80 x0).bind fun r2=>((c81 1).bind fun r3=>(B3 ((!(((r2.1.1==r3.1.1)&&(E4 r2.1.2 r3.1.2))&&(E4 r2.2 r3.2)))) (some 1) (gl0 x0 (x0.length:Int) 0 x0))))))
theorem e13 (s:D13.ask.T):D13.ev E0 (C5V c15 c69 c80 c81 c82) (C2S gl0) s=B13 gl0 c69 c80 c81 s.1.1:=by kernel_rfl
end
noncomputable def D3q (c13:(List TQ)→Option W0) (c15:(List TQ)→Option R15) (c69:(List TQ)→Option o9):List FE:=[B2P c13,C0F c15,C0G c69]
section
variable (c13:(List TQ)→Option W0) (c15:(List TQ)→Option R15) (c69:(List TQ)→Option o9)
noncomputable def B55 (x0:(List TQ)) (x1:(List TQ)):Option R55:=(c13 x0).bind fun r1=>(if r1≠0 then(some r1)else((c69 x1).bind fun r2=>(if r2=0 then((c15 x0).bind fun r3=>(if(x1.length:Int)>r3 then(some 3)else(some r2)))else(some r2))))
theorem e55 (s:D55.ask.T):D55.ev E0 (D3q c13 c15 c69) [] s=B55 c13 c15 c69 s.1.1 s.1.2.1:=by kernel_rfl
end
noncomputable def C9H:Sk:=⟨[(1, .d (.li (.li (.ag (.pr (.ag (.pr .bo .st)) .st))))),(2, .f (.a (.ptr 2 0 []))),(16, .d (.li (.li (.ag (.pr (.ag (.pr .bo .st)) .st))))),(17, .d (.it .i64)),(18, .d (.it .i64))],[(2, .cell (.ag (.li (.ag (.pr (.ag (.pr .bo .st)) .st)))) true)]⟩
noncomputable def C5O (gl0:(List (List TQ))→(List (List TQ))→Int→Int→(List TQ)→Option m4):List (C7 m4):=[⟨7,C9H,fun s=>gl0 s.1.1 s.1.2.1 s.1.2.2.1 s.1.2.2.2.1 s.2.1⟩]
noncomputable def C9w (c13:(List TQ)→Option W0) (c55:(List TQ)→(List TQ)→Option R55):List FE:=[B2P c13,D3R c55]
section
variable (gl0:(List (List TQ))→(List (List TQ))→Int→Int→(List TQ)→Option m4) (c13:(List TQ)→Option W0) (c55:(List TQ)→(List TQ)→Option R55)
noncomputable def A9Y (x1:(List (List TQ))) (x16:(List (List TQ))) (x17:Int) (x18:Int) (x2:(List TQ)):Option m4:=if x18<x17 then(if 0≤x18 then(if x18<(x16.length:Int)then((c55 x2 (C4 ([]:List TQ) x16 x18)).bind fun r1=>(if r1≠0 then(some r1)else(gl0 x1 x16 x17 (wrap64 (x18+1)) x2)))else(none))else(none))else(if(x1.length:Int)>0 then(if 0≤wrap64 ((x1.length:Int)-1)then(if wrap64 ((x1.length:Int)-1)<(x1.length:Int)then(if((C4 ([]:List TQ) x1 (wrap64 ((x1.length:Int)-1))).length:Int)=0 then(some 1)else(some 0))else(none))else(none))else(some 0))
theorem E3c (s0:C5 D14.ask.bl) (s:C9H.T):D14.po E0 (C9w c13 c55) (C5O gl0) s0 0 (C9H.mk' s)=A9Y gl0 c55 s.1.1 s.1.2.1 s.1.2.2.1 s.1.2.2.2.1 s.2.1:=by kernel_rfl
noncomputable def B14 (x0:(List TQ)) (x1:(List (List TQ))):Option m4:=(c13 x0).bind fun r1=>(if r1≠0 then(some r1)else(if(x1.length:Int)>65 then(some 4)else(gl0 x1 x1 (x1.length:Int) 0 x0)))
theorem e14 (s:D14.ask.T):D14.ev E0 (C9w c13 c55) (C5O gl0) s=B14 gl0 c13 s.1.1 s.1.2.1:=by kernel_rfl
end
noncomputable def C7a:Sk:=⟨[(17, .d (.li (.ag (.pr (.ag (.pr .bo .st)) .st)))),(18, .d (.it .i64)),(19, .d (.it .i64))],[]⟩
noncomputable def C3u (gl0:(List TQ)→Int→Int→Option R70):List (C7 R70):=[⟨4,C7a,fun s=>gl0 s.1.1 s.1.2.1 s.1.2.2.1⟩]
noncomputable def C6w (c69:(List TQ)→Option o9):List FE:=[C0G c69]
section
variable (gl0:(List TQ)→Int→Int→Option R70) (c69:(List TQ)→Option o9)
noncomputable def A8K (x17:(List TQ)) (x18:Int) (x19:Int):Option R70:=if x19<x18 then(if 0≤x19 then(if x19<(x17.length:Int)then(if((((C4 ((false,(⟨#[]⟩:ByteArray)),(⟨#[]⟩:ByteArray)) x17 x19).1).2).size:Int)>8 then(some false)else(if(((C4 ((false,(⟨#[]⟩:ByteArray)),(⟨#[]⟩:ByteArray)) x17 x19).2).size:Int)>8 then(some false)else(gl0 x17 x18 (wrap64 (x19+1)))))else(none))else(none))else(some true)
theorem E9O (s0:C5 D70.ask.bl) (s:C7a.T):D70.po E0 (C6w c69) (C3u gl0) s0 0 (C7a.mk' s)=A8K gl0 s.1.1 s.1.2.1 s.1.2.2.1:=by kernel_rfl
noncomputable def B70 (x0:(List TQ)) (x1:Int):Option R70:=if(x0.length:Int)>wrap64 (x1+1)then(some false)else((c69 x0).bind fun r1=>(if r1≠0 then(some false)else(gl0 x0 (x0.length:Int) 0)))
theorem e70 (s:D70.ask.T):D70.ev E0 (C6w c69) (C3u gl0) s=B70 gl0 c69 s.1.1 s.1.2.1:=by kernel_rfl
end
noncomputable def D3V (c13:(List TQ)→Option W0) (c15:(List TQ)→Option R15) (c70:(List TQ)→Int→Option R70):List FE:=[B2P c13,C0F c15,D5D c70]
section
variable (c13:(List TQ)→Option W0) (c15:(List TQ)→Option R15) (c70:(List TQ)→Int→Option R70)
noncomputable def B49 (x0:(List TQ)) (x1:(List TQ)):Option R49:=(c13 x0).bind fun r1=>(if r1=0 then((c15 x0).bind fun r2=>(if(x1.length:Int)≤r2 then((c15 x0).bind fun r3=>((c70 x1 r3).bind fun r4=>(some r4)))else(some false)))else(some false))
theorem e49 (s:D49.ask.T):D49.ev E0 (D3V c13 c15 c70) [] s=B49 c13 c15 c70 s.1.1 s.1.2.1:=by kernel_rfl
end
noncomputable def C3L:Sk:=⟨[(19, .d (.li (.ag (.pr (.ag (.pr .bo .st)) .st)))),(20, .d (.it .i64)),(21, .d (.it .i64))],[]⟩
noncomputable def C5W (gl0:(List TQ)→Int→Int→Option R79):List (C7 R79):=[⟨4,C3L,fun s=>gl0 s.1.1 s.1.2.1 s.1.2.2.1⟩]
noncomputable def C1r (c13:(List TQ)→Option W0):List FE:=[B2P c13]
section
variable (gl0:(List TQ)→Int→Int→Option R79) (c13:(List TQ)→Option W0)
noncomputable def A7T (x19:(List TQ)) (x20:Int) (x21:Int):Option R79:=if x21<x20 then(if 0≤x21 then(if x21<(x19.length:Int)then(if((((C4 ((false,(⟨#[]⟩:ByteArray)),(⟨#[]⟩:ByteArray)) x19 x21).1).2).size:Int)>4 then(some false)else(gl0 x19 x20 (wrap64 (x21+1))))else(none))else(none))else(some true)
theorem F4X (s0:C5 D79.ask.bl) (s:C3L.T):D79.po E0 (C1r c13) (C5W gl0) s0 0 (C3L.mk' s)=A7T gl0 s.1.1 s.1.2.1 s.1.2.2.1:=by kernel_rfl
noncomputable def B79 (x0:(List TQ)) (x1:Int):Option R79:=if(x0.length:Int)>wrap64 (x1+1)then(some false)else((c13 x0).bind fun r1=>(if r1≠0 then(some false)else(gl0 x0 (x0.length:Int) 0)))
theorem e79 (s:D79.ask.T):D79.ev E0 (C1r c13) (C5W gl0) s=B79 gl0 c13 s.1.1 s.1.2.1:=by kernel_rfl
end
noncomputable def D1A:Sk:=⟨[(4, .f (.a (.ptr 4 0 []))),(28, .d (.li (.li (.ag (.pr (.ag (.pr .bo .st)) .st))))),(29, .d (.it .i64)),(30, .d (.it .i64))],[(4, .cell (.ag (.li (.ag (.pr (.ag (.pr .bo .st)) .st)))) true)]⟩
noncomputable def C7h (gl0:(List (List TQ))→Int→Int→(List TQ)→Option R26):List (C7 R26):=[⟨4,D1A,fun s=>gl0 s.1.1 s.1.2.1 s.1.2.2.1 s.2.1⟩]
noncomputable def C5D (c14:(List TQ)→(List (List TQ))→Option m4) (c49:(List TQ)→(List TQ)→Option R49) (c79:(List TQ)→Int→Option R79):List FE:=[B6Y c14,D4p c49,C8q c79]
section
variable (gl0:(List (List TQ))→Int→Int→(List TQ)→Option R26) (c14:(List TQ)→(List (List TQ))→Option m4) (c49:(List TQ)→(List TQ)→Option R49) (c79:(List TQ)→Int→Option R79)
noncomputable def A8b (x28:(List (List TQ))) (x29:Int) (x30:Int) (x4:(List TQ)):Option R26:=if x30<x29 then(if 0≤x30 then(if x30<(x28.length:Int)then((c49 x4 (C4 ([]:List TQ) x28 x30)).bind fun r1=>(B3 ((!r1)) (some false) (gl0 x28 x29 (wrap64 (x30+1)) x4)))else(none))else(none))else(some true)
theorem F5u (s0:C5 D26.ask.bl) (s:D1A.T):D26.po E0 (C5D c14 c49 c79) (C7h gl0) s0 0 (D1A.mk' s)=A8b gl0 c49 s.1.1 s.1.2.1 s.1.2.2.1 s.2.1:=by kernel_rfl
noncomputable def B26 (x0:(List TQ)) (x1:(List (List TQ))) (x2:Int) (x3:Int):Option R26:=(c79 x0 x2).bind fun r1=>(B3 ((!r1)) (some false) (if(x1.length:Int)>wrap64 (x3+1)then(some false)else((c14 x0 x1).bind fun r2=>(if r2≠0 then(some false)else(gl0 x1 (x1.length:Int) 0 x0)))))
theorem e26 (s:D26.ask.T):D26.ev E0 (C5D c14 c49 c79) (C7h gl0) s=B26 gl0 c14 c79 s.1.1 s.1.2.1 s.1.2.2.1 s.1.2.2.2.1:=by kernel_rfl
end
noncomputable def C6x:Sk:=⟨[(2, .f (.a (.ptr 2 0 []))),(10, .d (.li (.li (.li (.ag (.pr (.ag (.pr .bo .st)) .st)))))),(11, .d (.it .i64)),(12, .d (.it .i64))],[(2, .cell (.ag (.li (.ag (.pr (.ag (.pr .bo .st)) .st)))) true)]⟩
noncomputable def D0t (gl0:(List (List (List TQ)))→Int→Int→(List TQ)→Option R12):List (C7 R12):=[⟨4,C6x,fun s=>gl0 s.1.1 s.1.2.1 s.1.2.2.1 s.2.1⟩]
noncomputable def C4e (c13:(List TQ)→Option W0) (c14:(List TQ)→(List (List TQ))→Option m4) (c26:(List TQ)→(List (List TQ))→Int→Int→Option R26) (c79:(List TQ)→Int→Option R79):List FE:=[B2P c13,B6Y c14,D7u c26,C8q c79]
section
variable (gl0:(List (List (List TQ)))→Int→Int→(List TQ)→Option R12) (c13:(List TQ)→Option W0) (c14:(List TQ)→(List (List TQ))→Option m4) (c26:(List TQ)→(List (List TQ))→Int→Int→Option R26) (c79:(List TQ)→Int→Option R79)
noncomputable def A8t (x10:(List (List (List TQ)))) (x11:Int) (x12:Int) (x2:(List TQ)):Option R12:=if x12<x11 then(if 0≤x12 then(if x12<(x10.length:Int)then((c14 x2 (C4 ([]:List (List TQ)) x10 x12)).bind fun r1=>(if r1=0 then((c26 x2 (C4 ([]:List (List TQ)) x10 x12) 4 4).bind fun r2=>(B3 ((!r2)) (some true) (gl0 x10 x11 (wrap64 (x12+1)) x2)))else(gl0 x10 x11 (wrap64 (x12+1)) x2)))else(none))else(none))else((c79 x2 4).bind fun r3=>(some (!r3)))
theorem E5P (s0:C5 D12.ask.bl) (s:C6x.T):D12.po E0 (C4e c13 c14 c26 c79) (D0t gl0) s0 0 (C6x.mk' s)=A8t gl0 c14 c26 c79 s.1.1 s.1.2.1 s.1.2.2.1 s.2.1:=by kernel_rfl
noncomputable def B12 (x0:(List TQ)) (x1:(List (List (List TQ)))):Option R12:=(c13 x0).bind fun r1=>(if r1≠0 then(some false)else(gl0 x1 (x1.length:Int) 0 x0))
theorem e12 (s:D12.ask.T):D12.ev E0 (C4e c13 c14 c26 c79) (D0t gl0) s=B12 gl0 c13 s.1.1 s.1.2.1:=by kernel_rfl
end
noncomputable def A2y (x0:TI):Option A3Q:=some (x0,(⟨#[1]⟩:ByteArray))
theorem F6x (s:B9K.ask.T):B9K.ev E0 [] [] s=A2y s.1.1:=by kernel_rfl
noncomputable def C5K:Sk:=⟨[(0, .d (.li (.it .u64))),(3, .d (.it .i64))],[]⟩
noncomputable def D0G (gl0:(List Int)→Int→Option A1k):List (C7 A1k):=[⟨2,C5K,fun s=>gl0 s.1.1 s.1.2.1⟩]
section
variable (gl0:(List Int)→Int→Option A1k)
noncomputable def C2u (x0:(List Int)) (x3:Int):Option A1k:=if x3>0 then(if 0≤wrap64 (x3-1)then(if wrap64 (x3-1)<(x0.length:Int)then(if rd x0 (wrap64 (x3-1))=0 then(gl0 x0 (wrap64 (x3-1)))else(if(0:Int)≤0 then(if 0≤x3 then(if x3≤(x0.length:Int)then(if(x0.length:Int)≤(x0.length:Int)then(some (slice_ x0 0 x3))else(none))else(none))else(none))else(none)))else(none))else(none))else(if(0:Int)≤0 then(if 0≤x3 then(if x3≤(x0.length:Int)then(if(x0.length:Int)≤(x0.length:Int)then(some (slice_ x0 0 x3))else(none))else(none))else(none))else(none))
theorem F3G (s0:C5 A9n.ask.bl) (s:C5K.T):A9n.po E0 [] (D0G gl0) s0 0 (C5K.mk' s)=C2u gl0 s.1.1 s.1.2.1:=by kernel_rfl
noncomputable def D0r (x0:(List Int)):Option A1k:=gl0 x0 (x0.length:Int)
theorem F3v (s:A9n.ask.T):A9n.ev E0 [] (D0G gl0) s=D0r gl0 s.1.1:=by kernel_rfl
end
noncomputable def C8o:Sk:=⟨[(3, .f (.a (.ref 3))),(17, .d (.li (.it .u64))),(18, .d (.it .i64)),(19, .d (.it .i64))],[(3, .own (.it .u8) true)]⟩
noncomputable def C6j:Sk:=⟨[(3, .f (.a (.ref 3))),(4, .d (.it .i64)),(5, .d (.it .u64)),(17, .d (.li (.it .u64))),(18, .d (.it .i64)),(19, .d (.it .i64)),(24, .d (.it .i64))],[(3, .own (.it .u8) true)]⟩
noncomputable def C2R:Sk:=⟨[(3, .f (.a (.ref 3))),(7, .d (.it .i64))],[(3, .own (.it .u8) true)]⟩
noncomputable def B5H (gl0:(List Int)→Int→Int→(List Int)→Option K8) (gl1:Int→Int→(List Int)→Int→Int→Int→(List Int)→Option K8) (gl2:Int→(List Int)→Option K8):List (C7 K8):=[⟨6,C8o,fun s=>gl0 s.1.1 s.1.2.1 s.1.2.2.1 s.2.1⟩,⟨9,C6j,fun s=>gl1 s.1.1 s.1.2.1 s.1.2.2.1 s.1.2.2.2.1 s.1.2.2.2.2.1 s.1.2.2.2.2.2.1 s.2.1⟩,⟨15,C2R,fun s=>gl2 s.1.1 s.2.1⟩]
noncomputable def B4C (c245v:(List Int)→Option A1k):List FE:=[D2t c245v]
section
variable (gl0:(List Int)→Int→Int→(List Int)→Option K8) (gl1:Int→Int→(List Int)→Int→Int→Int→(List Int)→Option K8) (gl2:Int→(List Int)→Option K8) (c245v:(List Int)→Option A1k)
noncomputable def D0e (x17:(List Int)) (x18:Int) (x19:Int) (x3:(List Int)):Option K8:=if x19<x18 then(if 0≤x19 then(if x19<(x17.length:Int)then(gl1 x19 (rd x17 x19) x17 x18 x19 0 x3)else(none))else(none))else(gl2 0 x3)
theorem E7D (s0:C5 A4E.ask.bl) (s:C8o.T):A4E.po E0 (B4C c245v) (B5H gl0 gl1 gl2) s0 0 (C8o.mk' s)=D0e gl1 gl2 s.1.1 s.1.2.1 s.1.2.2.1 s.2.1:=by kernel_rfl
noncomputable def C9I (x4:Int) (x5:Int) (x17:(List Int)) (x18:Int) (x19:Int) (x24:Int) (x3:(List Int)):Option K8:=if x24<8 then(if 0≤wrap64 (8*x24)then(if 0≤wrap64 ((wrap64 ((wrap64 ((x3.length:Int)-1))-(wrap64 (8*x4))))-x24)then(if wrap64 ((wrap64 ((wrap64 ((x3.length:Int)-1))-(wrap64 (8*x4))))-x24)<(x3.length:Int)then(gl1 x4 x5 x17 x18 x19 (wrap64 (x24+1)) (x3.set (wrap64 ((wrap64 ((wrap64 ((x3.length:Int)-1))-(wrap64 (8*x4))))-x24):Int).toNat (IntKind.u8.wrap (shr .u64 x5 (wrap64 (8*x24))))))else(none))else(none))else(none))else(gl0 x17 x18 (wrap64 (x19+1)) x3)
theorem F5P (s0:C5 A4E.ask.bl) (s:C6j.T):A4E.po E0 (B4C c245v) (B5H gl0 gl1 gl2) s0 1 (C6j.mk' s)=C9I gl0 gl1 s.1.1 s.1.2.1 s.1.2.2.1 s.1.2.2.2.1 s.1.2.2.2.2.1 s.1.2.2.2.2.2.1 s.2.1:=by kernel_rfl
noncomputable def C9G (x7:Int) (x3:(List Int)):Option K8:=if 0≤x7 then(if x7<(x3.length:Int)then(if rd x3 x7=0 then(gl2 (wrap64 (x7+1)) x3)else(if 0≤x7 then(if x7≤(x3.length:Int)then(if(x3.length:Int)≤(x3.length:Int)then(if(x3.length:Int)≤(x3.length:Int)then(some (strOfNums (slice_ x3 x7 (x3.length:Int))))else(none))else(none))else(none))else(none)))else(none))else(none)
theorem E2z (s0:C5 A4E.ask.bl) (s:C2R.T):A4E.po E0 (B4C c245v) (B5H gl0 gl1 gl2) s0 2 (C2R.mk' s)=C9G gl2 s.1.1 s.2.1:=by kernel_rfl
noncomputable def D0W (x0:(List Int)):Option K8:=(c245v x0).bind fun r1=>(if(r1.length:Int)=0 then(some (⟨#[]⟩:ByteArray))else(if 0≤wrap64 (8*(r1.length:Int))then(if wrap64 (8*(r1.length:Int))≤wrap64 (8*(r1.length:Int))then(if(wrap64 (8*(r1.length:Int)):Int).toNat≤281474976710656 then(gl0 r1 (r1.length:Int) 0 (List.replicate (wrap64 (8*(r1.length:Int)):Int).toNat (0:Int)))else(none))else(none))else(none)))
theorem E5O (s:A4E.ask.T):A4E.ev E0 (B4C c245v) (B5H gl0 gl1 gl2) s=D0W gl0 c245v s.1.1:=by kernel_rfl
end
noncomputable def D6a (c223:(List Int)→Option K8):List FE:=[A6t c223]
section
variable (c223:(List Int)→Option K8)
noncomputable def C8M (x0:Int):Option B1j:=(c223 ([x0]:List Int)).bind fun r1=>(some r1)
theorem F5e (s:B7p.ask.T):B7p.ev E0 (D6a c223) [] s=C8M c223 s.1.1:=by kernel_rfl
end
noncomputable def D5B (c193:Int→Option B1j):List FE:=[D4i c193]
section
variable (c193:Int→Option B1j)
noncomputable def D0H (x0:Int):Option B2q:=if x0<0 then((c193 (IntKind.u64.wrap (0-(IntKind.u64.wrap (x0))))).bind fun r1=>(some (true,r1)))else((c193 (IntKind.u64.wrap (x0))).bind fun r2=>(some (false,r2)))
theorem F4p (s:B9p.ask.T):B9p.ev E0 (D5B c193) [] s=D0H c193 s.1.1:=by kernel_rfl
end
noncomputable def D6f (c149:TI→Option A3Q) (c150:Int→Option B2q):List FE:=[B5x c149,D1i c150]
section
variable (c149:TI→Option A3Q) (c150:Int→Option B2q)
noncomputable def B89 (x0:Int):Option X8:=(c150 x0).bind fun r1=>((c149 (r1.1,r1.2)).bind fun r2=>(some (r2.1,r2.2)))
theorem e89 (s:D89.ask.T):D89.ev E0 (D6f c149 c150) [] s=B89 c149 c150 s.1.1:=by kernel_rfl
end
noncomputable def C2q (x0:TQ):Option A1F:=some (E4 x0.1.2 (⟨#[]⟩:ByteArray))
theorem E8R (s:B9I.ask.T):B9I.ev E0 [] [] s=C2q s.1.1:=by kernel_rfl
noncomputable def D0s (x0:ByteArray):Option A5u:=if(x0.size:Int)>0 then(if(0:Int)≤0 then(if 0<(x0.size:Int)then(if bt x0 0=0 then(some 1)else(if(x0.size:Int)>1024 then(some 4)else(some 0)))else(none))else(none))else(if(x0.size:Int)>1024 then(some 4)else(some 0))
theorem E3p (s:B8r.ask.T):B8r.ev E0 [] [] s=D0s s.1.1:=by kernel_rfl
noncomputable def C9O:Option B2l:=some (false,(⟨#[]⟩:ByteArray))
theorem E4j (s:B6J.ask.T):B6J.ev E0 [] [] s=C9O:=by kernel_rfl
noncomputable def D2P (c214:ByteArray→Option A5u) (c243:Option B2l):List FE:=[C7y c214,D8b c243]
section
variable (c214:ByteArray→Option A5u) (c243:Option B2l)
noncomputable def C1k (x0:TI):Option B0h:=(c214 x0.2).bind fun r1=>(if r1=1 then(some r1)else((c243).bind fun r2=>(B3 ((!((x0.1==r2.1)&&(E4 x0.2 r2.2)))) (B3 ((E4 x0.2 (⟨#[]⟩:ByteArray))) (some 1) (some r1)) (some r1))))
theorem F6b (s:B7h.ask.T):B7h.ev E0 (D2P c214 c243) [] s=C1k c214 c243 s.1.1:=by kernel_rfl
end
noncomputable def C8j:Sk:=⟨[(0, .f (.a (.ref 2000))),(3, .d (.it .i64))],[(2000, .own (.it .u64) false)]⟩
noncomputable def C5x (gl0:Int→(List Int)→Option m6):List (C7 m6):=[⟨2,C8j,fun s=>gl0 s.1.1 s.2.1⟩]
section
variable (gl0:Int→(List Int)→Option m6)
noncomputable def C7f (x3:Int) (y0:(List Int)):Option m6:=if x3>0 then(if 0≤wrap64 (x3-1)then(if wrap64 (x3-1)<(y0.length:Int)then(if rd y0 (wrap64 (x3-1))=0 then(gl0 (wrap64 (x3-1)) y0)else(if(0:Int)≤0 then(if 0≤x3 then(if x3≤(y0.length:Int)then(if(y0.length:Int)≤(y0.length:Int)then(some (x3,y0))else(none))else(none))else(none))else(none)))else(none))else(none))else(if(0:Int)≤0 then(if 0≤x3 then(if x3≤(y0.length:Int)then(if(y0.length:Int)≤(y0.length:Int)then(some (x3,y0))else(none))else(none))else(none))else(none))
theorem E7L (s0:C5 B2k.ask.bl) (s:C8j.T):B2k.po E0 [] (C5x gl0) s0 0 (C8j.mk' s)=C7f gl0 s.1.1 s.2.1:=by kernel_rfl
noncomputable def D1k (y0:(List Int)):Option m6:=gl0 (y0.length:Int) y0
theorem F1Q (s:B2k.ask.T):B2k.ev E0 [] (C5x gl0) s=D1k gl0 s.2.1:=by kernel_rfl
end
noncomputable def C2k:Sk:=⟨[(0, .d .st),(3, .f (.a (.ref 3))),(12, .d (.it .i64)),(13, .d (.it .i64))],[(3, .own (.it .u64) true)]⟩
noncomputable def C9K (gl0:ByteArray→Int→Int→(List Int)→Option V4):List (C7 V4):=[⟨3,C2k,fun s=>gl0 s.1.1 s.1.2.1 s.1.2.2.1 s.2.1⟩]
noncomputable def C8x (c245:(List Int)→Option m6):List FE:=[B7L c245]
section
variable (gl0:ByteArray→Int→Int→(List Int)→Option V4) (c245:(List Int)→Option m6)
noncomputable def C3D (x0:ByteArray) (x12:Int) (x13:Int) (x3:(List Int)):Option V4:=if x13<x12 then(if(8:Int)=0 then(none)else(if 0≤wrap64 (Int.tdiv (wrap64 ((wrap64 ((x0.size:Int)-1))-x13)) 8)then(if wrap64 (Int.tdiv (wrap64 ((wrap64 ((x0.size:Int)-1))-x13)) 8)<(x3.length:Int)then(if 0≤x13 then(if x13<(x0.size:Int)then(if(8:Int)=0 then(none)else(if 0≤wrap64 (8*(Int.tmod (wrap64 ((wrap64 ((x0.size:Int)-1))-x13)) 8))then(if 0≤wrap64 (Int.tdiv (wrap64 ((wrap64 ((x0.size:Int)-1))-x13)) 8)then(if wrap64 (Int.tdiv (wrap64 ((wrap64 ((x0.size:Int)-1))-x13)) 8)<(x3.length:Int)then(gl0 x0 x12 (wrap64 (x13+1)) (x3.set (wrap64 (Int.tdiv (wrap64 ((wrap64 ((x0.size:Int)-1))-x13)) 8):Int).toNat (Go.bits .or .u64 (rd x3 (wrap64 (Int.tdiv (wrap64 ((wrap64 ((x0.size:Int)-1))-x13)) 8))) (shl .u64 (IntKind.u64.wrap (bt x0 x13)) (wrap64 (8*(Int.tmod (wrap64 ((wrap64 ((x0.size:Int)-1))-x13)) 8)))))))else(none))else(none))else(none)))else(none))else(none))else(none))else(none)))else((c245 x3).bind fun r1=>(some (r1.2.take (r1.1:Int).toNat)))
theorem E1d (s0:C5 B2X.ask.bl) (s:C2k.T):B2X.po E0 (C8x c245) (C9K gl0) s0 0 (C2k.mk' s)=C3D gl0 c245 s.1.1 s.1.2.1 s.1.2.2.1 s.2.1:=by kernel_rfl
noncomputable def C7H (x0:ByteArray):Option V4:=if(8:Int)=0 then(none)else(if 0≤wrap64 (Int.tdiv (wrap64 ((x0.size:Int)+7)) 8)then(if wrap64 (Int.tdiv (wrap64 ((x0.size:Int)+7)) 8)≤wrap64 (Int.tdiv (wrap64 ((x0.size:Int)+7)) 8)then(if(wrap64 (Int.tdiv (wrap64 ((x0.size:Int)+7)) 8):Int).toNat≤35184372088832 then(gl0 x0 (x0.size:Int) 0 (List.replicate (wrap64 (Int.tdiv (wrap64 ((x0.size:Int)+7)) 8):Int).toNat (0:Int)))else(none))else(none))else(none))
theorem E1Q (s:B2X.ask.T):B2X.ev E0 (C8x c245) (C9K gl0) s=C7H gl0 s.1.1:=by kernel_rfl
end
noncomputable def C8V:Sk:=⟨[(0, .d (.li (.it .u64))),(1, .d (.li (.it .u64))),(5, .d (.it .i64))],[]⟩
noncomputable def D0f (gl0:(List Int)→(List Int)→Int→Option A2A):List (C7 A2A):=[⟨6,C8V,fun s=>gl0 s.1.1 s.1.2.1 s.1.2.2.1⟩]
section
variable (gl0:(List Int)→(List Int)→Int→Option A2A)
noncomputable def C8t (x0:(List Int)) (x1:(List Int)) (x5:Int):Option A2A:=if x5≥0 then(if 0≤x5 then(if x5<(x0.length:Int)then(if 0≤x5 then(if x5<(x1.length:Int)then(if rd x0 x5≠rd x1 x5 then(if 0≤x5 then(if x5<(x0.length:Int)then(if 0≤x5 then(if x5<(x1.length:Int)then(if rd x0 x5<rd x1 x5 then(some (-1))else(some 1))else(none))else(none))else(none))else(none))else(gl0 x0 x1 (wrap64 (x5-1))))else(none))else(none))else(none))else(none))else(some 0)
theorem F2o (s0:C5 B1V.ask.bl) (s:C8V.T):B1V.po E0 [] (D0f gl0) s0 0 (C8V.mk' s)=C8t gl0 s.1.1 s.1.2.1 s.1.2.2.1:=by kernel_rfl
noncomputable def C1Y (x0:(List Int)) (x1:(List Int)):Option A2A:=if(x0.length:Int)≠(x1.length:Int)then(if(x0.length:Int)<(x1.length:Int)then(some (-1))else(some 1))else(gl0 x0 x1 (wrap64 ((x0.length:Int)-1)))
theorem E3m (s:B1V.ask.T):B1V.ev E0 [] (D0f gl0) s=C1Y gl0 s.1.1 s.1.2.1:=by kernel_rfl
end
noncomputable def D8v (c297:Int→Option B4X):List FE:=[D1d c297]
section
variable (c297:Int→Option B4X)
noncomputable def C3r (x0:Int):Option A6K:=(c297 x0).bind fun r1=>(some (wrap64 (64-r1)))
theorem D9x (s:B8W.ask.T):B8W.ev E0 (D8v c297) [] s=C3r c297 s.1.1:=by kernel_rfl
end
noncomputable def C6H:Sk:=⟨[(2, .d (.it .u64)),(8, .d (.it .u64)),(9, .d (.it .u64)),(10, .d (.it .u64)),(11, .d (.it .u64)),(13, .d (.it .u64)),(14, .d (.it .u64)),(15, .d (.it .u64)),(16, .d (.it .u64))],[]⟩
noncomputable def C2O:Sk:=⟨[(2, .d (.it .u64)),(8, .d (.it .u64)),(9, .d (.it .u64)),(10, .d (.it .u64)),(14, .d (.it .u64)),(15, .d (.it .u64)),(16, .d (.it .u64)),(17, .d (.it .u64)),(18, .d (.it .u64))],[]⟩
noncomputable def B7r (gl0:Int→Int→Int→Int→Int→Int→Int→Int→Int→Option f9) (gl1:Int→Int→Int→Int→Int→Int→Int→Int→Int→Option f9):List (C7 f9):=[⟨17,C6H,fun s=>gl0 s.1.1 s.1.2.1 s.1.2.2.1 s.1.2.2.2.1 s.1.2.2.2.2.1 s.1.2.2.2.2.2.1 s.1.2.2.2.2.2.2.1 s.1.2.2.2.2.2.2.2.1 s.1.2.2.2.2.2.2.2.2.1⟩,⟨24,C2O,fun s=>gl1 s.1.1 s.1.2.1 s.1.2.2.1 s.1.2.2.2.1 s.1.2.2.2.2.1 s.1.2.2.2.2.2.1 s.1.2.2.2.2.2.2.1 s.1.2.2.2.2.2.2.2.1 s.1.2.2.2.2.2.2.2.2.1⟩]
noncomputable def B7t (c278:Int→Option A6K):List FE:=[C1v c278]
section
variable (gl0:Int→Int→Int→Int→Int→Int→Int→Int→Int→Option f9) (gl1:Int→Int→Int→Int→Int→Int→Int→Int→Int→Option f9) (c278:Int→Option A6K)
noncomputable def C6A (x2:Int) (x8:Int) (x9:Int) (x10:Int) (x11:Int) (x13:Int) (x14:Int) (x15:Int) (x16:Int):Option f9:=if x15≥4294967296 then(if IntKind.u64.wrap (x16+x9)≥4294967296 then(if x9=0 then(none)else(gl1 x2 x8 x9 x10 x14 (IntKind.u64.wrap (x15-1)) (IntKind.u64.wrap ((IntKind.u64.wrap ((IntKind.u64.wrap ((IntKind.u64.wrap (x11*4294967296))+x13))-(IntKind.u64.wrap ((IntKind.u64.wrap (x15-1))*x2))))-(IntKind.u64.wrap ((IntKind.u64.wrap (Int.tdiv (IntKind.u64.wrap ((IntKind.u64.wrap ((IntKind.u64.wrap (x11*4294967296))+x13))-(IntKind.u64.wrap ((IntKind.u64.wrap (x15-1))*x2)))) x9))*x9)))) (IntKind.u64.wrap ((IntKind.u64.wrap ((IntKind.u64.wrap (x11*4294967296))+x13))-(IntKind.u64.wrap ((IntKind.u64.wrap (x15-1))*x2)))) (IntKind.u64.wrap (Int.tdiv (IntKind.u64.wrap ((IntKind.u64.wrap ((IntKind.u64.wrap (x11*4294967296))+x13))-(IntKind.u64.wrap ((IntKind.u64.wrap (x15-1))*x2)))) x9))))else(gl0 x2 x8 x9 x10 x11 x13 x14 (IntKind.u64.wrap (x15-1)) (IntKind.u64.wrap (x16+x9))))else(if IntKind.u64.wrap (x15*x10)>IntKind.u64.wrap ((IntKind.u64.wrap (4294967296*x16))+x13)then(if IntKind.u64.wrap (x16+x9)≥4294967296 then(if x9=0 then(none)else(gl1 x2 x8 x9 x10 x14 (IntKind.u64.wrap (x15-1)) (IntKind.u64.wrap ((IntKind.u64.wrap ((IntKind.u64.wrap ((IntKind.u64.wrap (x11*4294967296))+x13))-(IntKind.u64.wrap ((IntKind.u64.wrap (x15-1))*x2))))-(IntKind.u64.wrap ((IntKind.u64.wrap (Int.tdiv (IntKind.u64.wrap ((IntKind.u64.wrap ((IntKind.u64.wrap (x11*4294967296))+x13))-(IntKind.u64.wrap ((IntKind.u64.wrap (x15-1))*x2)))) x9))*x9)))) (IntKind.u64.wrap ((IntKind.u64.wrap ((IntKind.u64.wrap (x11*4294967296))+x13))-(IntKind.u64.wrap ((IntKind.u64.wrap (x15-1))*x2)))) (IntKind.u64.wrap (Int.tdiv (IntKind.u64.wrap ((IntKind.u64.wrap ((IntKind.u64.wrap (x11*4294967296))+x13))-(IntKind.u64.wrap ((IntKind.u64.wrap (x15-1))*x2)))) x9))))else(gl0 x2 x8 x9 x10 x11 x13 x14 (IntKind.u64.wrap (x15-1)) (IntKind.u64.wrap (x16+x9))))else(if x9=0 then(none)else(gl1 x2 x8 x9 x10 x14 x15 (IntKind.u64.wrap ((IntKind.u64.wrap ((IntKind.u64.wrap ((IntKind.u64.wrap (x11*4294967296))+x13))-(IntKind.u64.wrap (x15*x2))))-(IntKind.u64.wrap ((IntKind.u64.wrap (Int.tdiv (IntKind.u64.wrap ((IntKind.u64.wrap ((IntKind.u64.wrap (x11*4294967296))+x13))-(IntKind.u64.wrap (x15*x2)))) x9))*x9)))) (IntKind.u64.wrap ((IntKind.u64.wrap ((IntKind.u64.wrap (x11*4294967296))+x13))-(IntKind.u64.wrap (x15*x2)))) (IntKind.u64.wrap (Int.tdiv (IntKind.u64.wrap ((IntKind.u64.wrap ((IntKind.u64.wrap (x11*4294967296))+x13))-(IntKind.u64.wrap (x15*x2)))) x9)))))
theorem F2a (s0:C5 A6U.ask.bl) (s:C6H.T):A6U.po E0 (B7t c278) (B7r gl0 gl1) s0 0 (C6H.mk' s)=C6A gl0 gl1 s.1.1 s.1.2.1 s.1.2.2.1 s.1.2.2.2.1 s.1.2.2.2.2.1 s.1.2.2.2.2.2.1 s.1.2.2.2.2.2.2.1 s.1.2.2.2.2.2.2.2.1 s.1.2.2.2.2.2.2.2.2.1:=by kernel_rfl
noncomputable def C6B (x2:Int) (x8:Int) (x9:Int) (x10:Int) (x14:Int) (x15:Int) (x16:Int) (x17:Int) (x18:Int):Option f9:=if x18≥4294967296 then(if IntKind.u64.wrap (x16+x9)≥4294967296 then(if 0≤x8 then(some (IntKind.u64.wrap ((IntKind.u64.wrap (x15*4294967296))+(IntKind.u64.wrap (x18-1))),shr .u64 (IntKind.u64.wrap ((IntKind.u64.wrap ((IntKind.u64.wrap (x17*4294967296))+x14))-(IntKind.u64.wrap ((IntKind.u64.wrap (x18-1))*x2)))) x8))else(none))else(gl1 x2 x8 x9 x10 x14 x15 (IntKind.u64.wrap (x16+x9)) x17 (IntKind.u64.wrap (x18-1))))else(if IntKind.u64.wrap (x18*x10)>IntKind.u64.wrap ((IntKind.u64.wrap (4294967296*x16))+x14)then(if IntKind.u64.wrap (x16+x9)≥4294967296 then(if 0≤x8 then(some (IntKind.u64.wrap ((IntKind.u64.wrap (x15*4294967296))+(IntKind.u64.wrap (x18-1))),shr .u64 (IntKind.u64.wrap ((IntKind.u64.wrap ((IntKind.u64.wrap (x17*4294967296))+x14))-(IntKind.u64.wrap ((IntKind.u64.wrap (x18-1))*x2)))) x8))else(none))else(gl1 x2 x8 x9 x10 x14 x15 (IntKind.u64.wrap (x16+x9)) x17 (IntKind.u64.wrap (x18-1))))else(if 0≤x8 then(some (IntKind.u64.wrap ((IntKind.u64.wrap (x15*4294967296))+x18),shr .u64 (IntKind.u64.wrap ((IntKind.u64.wrap ((IntKind.u64.wrap (x17*4294967296))+x14))-(IntKind.u64.wrap (x18*x2)))) x8))else(none)))
theorem F6z (s0:C5 A6U.ask.bl) (s:C2O.T):A6U.po E0 (B7t c278) (B7r gl0 gl1) s0 1 (C2O.mk' s)=C6B gl1 s.1.1 s.1.2.1 s.1.2.2.1 s.1.2.2.2.1 s.1.2.2.2.2.1 s.1.2.2.2.2.2.1 s.1.2.2.2.2.2.2.1 s.1.2.2.2.2.2.2.2.1 s.1.2.2.2.2.2.2.2.2.1:=by kernel_rfl
noncomputable def D0w (x0:Int) (x1:Int) (x2:Int):Option f9:=if x2=0 then(none)else(if x2≤x0 then(none)else(if x0=0 then(if x2=0 then(none)else(if x2=0 then(none)else(some (IntKind.u64.wrap (Int.tdiv x1 x2),Int.tmod x1 x2))))else((c278 x2).bind fun r1=>(if 0≤IntKind.u64.wrap (r1)then(if(0:Int)≤32 then(if 0≤IntKind.u64.wrap (r1)then(if 0≤IntKind.u64.wrap (64-(IntKind.u64.wrap (r1)))then(if 0≤IntKind.u64.wrap (r1)then(if(0:Int)≤32 then(if(shl .u64 x2 (IntKind.u64.wrap (r1)))/4294967296=0 then(none)else(gl0 (shl .u64 x2 (IntKind.u64.wrap (r1))) (IntKind.u64.wrap (r1)) ((shl .u64 x2 (IntKind.u64.wrap (r1)))/4294967296) (Go.bits .and .u64 (shl .u64 x2 (IntKind.u64.wrap (r1))) 4294967295) (Go.bits .or .u64 (shl .u64 x0 (IntKind.u64.wrap (r1))) (shr .u64 x1 (IntKind.u64.wrap (64-(IntKind.u64.wrap (r1)))))) ((shl .u64 x1 (IntKind.u64.wrap (r1)))/4294967296) (Go.bits .and .u64 (shl .u64 x1 (IntKind.u64.wrap (r1))) 4294967295) (IntKind.u64.wrap (Int.tdiv (Go.bits .or .u64 (shl .u64 x0 (IntKind.u64.wrap (r1))) (shr .u64 x1 (IntKind.u64.wrap (64-(IntKind.u64.wrap (r1)))))) ((shl .u64 x2 (IntKind.u64.wrap (r1)))/4294967296))) (IntKind.u64.wrap ((Go.bits .or .u64 (shl .u64 x0 (IntKind.u64.wrap (r1))) (shr .u64 x1 (IntKind.u64.wrap (64-(IntKind.u64.wrap (r1))))))-(IntKind.u64.wrap ((IntKind.u64.wrap (Int.tdiv (Go.bits .or .u64 (shl .u64 x0 (IntKind.u64.wrap (r1))) (shr .u64 x1 (IntKind.u64.wrap (64-(IntKind.u64.wrap (r1)))))) ((shl .u64 x2 (IntKind.u64.wrap (r1)))/4294967296)))*((shl .u64 x2 (IntKind.u64.wrap (r1)))/4294967296)))))))else(none))else(none))else(none))else(none))else(none))else(none)))))
theorem F2F (s:A6U.ask.T):A6U.ev E0 (B7t c278) (B7r gl0 gl1) s=D0w gl0 c278 s.1.1 s.1.2.1 s.1.2.2.1:=by kernel_rfl
end
noncomputable def C2c:Sk:=⟨[(1, .d (.it .i64)),(5, .f (.a (.ref 5))),(12, .d (.li (.it .u64))),(13, .d (.it .i64)),(14, .d (.it .i64))],[(5, .own (.it .u64) true)]⟩
noncomputable def C4B (gl0:Int→(List Int)→Int→Int→(List Int)→Option A2u):List (C7 A2u):=[⟨3,C2c,fun s=>gl0 s.1.1 s.1.2.1 s.1.2.2.1 s.1.2.2.2.1 s.2.1⟩]
section
variable (gl0:Int→(List Int)→Int→Int→(List Int)→Option A2u)
noncomputable def D0V (x1:Int) (x12:(List Int)) (x13:Int) (x14:Int) (x5:(List Int)):Option A2u:=if x14<x13 then(if 0≤x14 then(if x14<(x12.length:Int)then(if 0≤x14 then(if x14<(x5.length:Int)then(if 0≤x1 then(if 0≤x14 then(if x14<(x5.length:Int)then(if x1>0 then(if 0≤wrap64 (64-x1)then(if 0≤wrap64 (x14+1)then(if wrap64 (x14+1)<((x5.set (x14:Int).toNat (Go.bits .or .u64 (rd x5 x14) (shl .u64 (rd x12 x14) x1))).length:Int)then(gl0 x1 x12 x13 (wrap64 (x14+1)) ((x5.set (x14:Int).toNat (Go.bits .or .u64 (rd x5 x14) (shl .u64 (rd x12 x14) x1))).set (wrap64 (x14+1):Int).toNat (shr .u64 (rd x12 x14) (wrap64 (64-x1)))))else(none))else(none))else(none))else(gl0 x1 x12 x13 (wrap64 (x14+1)) (x5.set (x14:Int).toNat (Go.bits .or .u64 (rd x5 x14) (shl .u64 (rd x12 x14) x1)))))else(none))else(none))else(none))else(none))else(none))else(none))else(none))else(some x5)
theorem E3V (s0:C5 A9r.ask.bl) (s:C2c.T):A9r.po E0 [] (C4B gl0) s0 0 (C2c.mk' s)=D0V gl0 s.1.1 s.1.2.1 s.1.2.2.1 s.1.2.2.2.1 s.2.1:=by kernel_rfl
noncomputable def C7o (x0:(List Int)) (x1:Int):Option A2u:=if 0≤wrap64 ((x0.length:Int)+1)then(if wrap64 ((x0.length:Int)+1)≤wrap64 ((x0.length:Int)+1)then(if(wrap64 ((x0.length:Int)+1):Int).toNat≤35184372088832 then(gl0 x1 x0 (x0.length:Int) 0 (List.replicate (wrap64 ((x0.length:Int)+1):Int).toNat (0:Int)))else(none))else(none))else(none)
theorem E9V (s:A9r.ask.T):A9r.ev E0 [] (C4B gl0) s=C7o gl0 s.1.1 s.1.2.1:=by kernel_rfl
end
noncomputable def D0T (x0:Int) (x1:Int):Option A6c:=if(0:Int)≤32 then(if(0:Int)≤32 then(if(0:Int)≤32 then(if(0:Int)≤32 then(if(0:Int)≤32 then(some (IntKind.u64.wrap ((IntKind.u64.wrap ((IntKind.u64.wrap ((x0/4294967296)*(x1/4294967296)))+((IntKind.u64.wrap ((IntKind.u64.wrap ((x0/4294967296)*(Go.bits .and .u64 x1 4294967295)))+((IntKind.u64.wrap ((Go.bits .and .u64 x0 4294967295)*(Go.bits .and .u64 x1 4294967295)))/4294967296)))/4294967296)))+((IntKind.u64.wrap ((Go.bits .and .u64 (IntKind.u64.wrap ((IntKind.u64.wrap ((x0/4294967296)*(Go.bits .and .u64 x1 4294967295)))+((IntKind.u64.wrap ((Go.bits .and .u64 x0 4294967295)*(Go.bits .and .u64 x1 4294967295)))/4294967296))) 4294967295)+(IntKind.u64.wrap ((Go.bits .and .u64 x0 4294967295)*(x1/4294967296)))))/4294967296)),IntKind.u64.wrap (x0*x1)))else(none))else(none))else(none))else(none))else(none)
theorem F6s (s:B6i.ask.T):B6i.ev E0 [] [] s=D0T s.1.1 s.1.2.1:=by kernel_rfl
noncomputable def C1H:Sk:=⟨[(0, .f (.a (.ref 2000))),(1, .d (.li (.it .u64))),(5, .d (.it .i64)),(6, .d (.it .u64)),(7, .d (.it .u64)),(8, .d (.it .u64))],[(2000, .own (.it .u64) false)]⟩
noncomputable def C4c:Sk:=⟨[(0, .f (.a (.ref 2000))),(1, .d (.li (.it .u64))),(5, .d (.it .i64)),(6, .d (.it .u64)),(11, .d (.it .u64)),(12, .d (.it .u64)),(104, .d (.it .i64)),(105, .d (.it .i64))],[(2000, .own (.it .u64) false)]⟩
noncomputable def C7Z:Sk:=⟨[(0, .f (.a (.ref 2000))),(1, .d (.li (.it .u64))),(5, .d (.it .i64)),(6, .d (.it .u64)),(17, .d (.it .u64)),(156, .d (.it .i64)),(157, .d (.it .i64))],[(2000, .own (.it .u64) false)]⟩
noncomputable def B3C (gl0:(List Int)→Int→Int→Int→Int→(List Int)→Option X1) (gl1:(List Int)→Int→Int→Int→Int→Int→Int→(List Int)→Option X1) (gl2:(List Int)→Int→Int→Int→Int→Int→(List Int)→Option X1):List (C7 X1):=[⟨8,C1H,fun s=>gl0 s.1.1 s.1.2.1 s.1.2.2.1 s.1.2.2.2.1 s.1.2.2.2.2.1 s.2.1⟩,⟨15,C4c,fun s=>gl1 s.1.1 s.1.2.1 s.1.2.2.1 s.1.2.2.2.1 s.1.2.2.2.2.1 s.1.2.2.2.2.2.1 s.1.2.2.2.2.2.2.1 s.2.1⟩,⟨28,C7Z,fun s=>gl2 s.1.1 s.1.2.1 s.1.2.2.1 s.1.2.2.2.1 s.1.2.2.2.2.1 s.1.2.2.2.2.2.1 s.2.1⟩]
noncomputable def B4y (c246:Int→Int→Option A6c) (c247:Int→Int→Int→Option A4Z) (c248:Int→Int→Int→Option A7A) (c277:Int→Int→Int→Option f9):List FE:=[C4R c246,C0P c247,C7B c248,C6L c277]
section
variable (gl0:(List Int)→Int→Int→Int→Int→(List Int)→Option X1) (gl1:(List Int)→Int→Int→Int→Int→Int→Int→(List Int)→Option X1) (gl2:(List Int)→Int→Int→Int→Int→Int→(List Int)→Option X1) (c246:Int→Int→Option A6c) (c247:Int→Int→Int→Option A4Z) (c248:Int→Int→Int→Option A7A) (c277:Int→Int→Int→Option f9)
noncomputable def C9l (x1:(List Int)) (x5:Int) (x6:Int) (x7:Int) (x8:Int) (y0:(List Int)):Option X1:=if x8=0 then(if 0≤wrap64 (x5-2)then(if wrap64 (x5-2)<(x1.length:Int)then((c246 x6 (rd x1 (wrap64 (x5-2)))).bind fun r1=>(if r1.1<x7 then(gl1 x1 x5 x6 0 0 x5 0 y0)else(if r1.1=x7 then(if 0≤wrap64 (x5-2)then(if wrap64 (x5-2)<(y0.length:Int)then(if r1.2≤rd y0 (wrap64 (x5-2))then(gl1 x1 x5 x6 0 0 x5 0 y0)else(if 0≤wrap64 (x5-1)then(if wrap64 (x5-1)<(x1.length:Int)then((c247 x7 (rd x1 (wrap64 (x5-1))) 0).bind fun r2=>(gl0 x1 x5 (IntKind.u64.wrap (x6-1)) r2.1 r2.2 y0))else(none))else(none)))else(none))else(none))else(if 0≤wrap64 (x5-1)then(if wrap64 (x5-1)<(x1.length:Int)then((c247 x7 (rd x1 (wrap64 (x5-1))) 0).bind fun r3=>(gl0 x1 x5 (IntKind.u64.wrap (x6-1)) r3.1 r3.2 y0))else(none))else(none)))))else(none))else(none))else(gl1 x1 x5 x6 0 0 x5 0 y0)
theorem F1E (s0:C5 A4A.ask.bl) (s:C1H.T):A4A.po E0 (B4y c246 c247 c248 c277) (B3C gl0 gl1 gl2) s0 0 (C1H.mk' s)=C9l gl0 gl1 c246 c247 s.1.1 s.1.2.1 s.1.2.2.1 s.1.2.2.2.1 s.1.2.2.2.2.1 s.2.1:=by kernel_rfl
noncomputable def C9R (x1:(List Int)) (x5:Int) (x6:Int) (x11:Int) (x12:Int) (x104:Int) (x105:Int) (y0:(List Int)):Option X1:=if x105<x104 then(if 0≤x105 then(if x105<(x1.length:Int)then((c246 x6 (rd x1 x105)).bind fun r1=>((c247 r1.2 x12 0).bind fun r2=>(if 0≤x105 then(if x105<(y0.length:Int)then((c248 (rd y0 x105) r2.1 x11).bind fun r3=>(if 0≤x105 then(if x105<(y0.length:Int)then(gl1 x1 x5 x6 r3.2 (IntKind.u64.wrap (r1.1+r2.2)) x104 (wrap64 (x105+1)) (y0.set (x105:Int).toNat r3.1))else(none))else(none)))else(none))else(none))))else(none))else(none))else(if 0≤x5 then(if x5<(y0.length:Int)then((c248 (rd y0 x5) x12 x11).bind fun r4=>(if 0≤x5 then(if x5<(y0.length:Int)then(if r4.2=0 then(some (x6,y0.set (x5:Int).toNat r4.1))else(gl2 x1 x5 x6 0 x5 0 (y0.set (x5:Int).toNat r4.1)))else(none))else(none)))else(none))else(none))
theorem E9L (s0:C5 A4A.ask.bl) (s:C4c.T):A4A.po E0 (B4y c246 c247 c248 c277) (B3C gl0 gl1 gl2) s0 1 (C4c.mk' s)=C9R gl1 gl2 c246 c247 c248 s.1.1 s.1.2.1 s.1.2.2.1 s.1.2.2.2.1 s.1.2.2.2.2.1 s.1.2.2.2.2.2.1 s.1.2.2.2.2.2.2.1 s.2.1:=by kernel_rfl
noncomputable def C8T (x1:(List Int)) (x5:Int) (x6:Int) (x17:Int) (x156:Int) (x157:Int) (y0:(List Int)):Option X1:=if x157<x156 then(if 0≤x157 then(if x157<(y0.length:Int)then(if 0≤x157 then(if x157<(x1.length:Int)then((c247 (rd y0 x157) (rd x1 x157) x17).bind fun r1=>(if 0≤x157 then(if x157<(y0.length:Int)then(gl2 x1 x5 x6 r1.2 x156 (wrap64 (x157+1)) (y0.set (x157:Int).toNat r1.1))else(none))else(none)))else(none))else(none))else(none))else(none))else(if 0≤x5 then(if x5<(y0.length:Int)then(if 0≤x5 then(if x5<(y0.length:Int)then(some (IntKind.u64.wrap (x6-1),y0.set (x5:Int).toNat (IntKind.u64.wrap ((rd y0 x5)+x17))))else(none))else(none))else(none))else(none))
theorem E2J (s0:C5 A4A.ask.bl) (s:C7Z.T):A4A.po E0 (B4y c246 c247 c248 c277) (B3C gl0 gl1 gl2) s0 2 (C7Z.mk' s)=C8T gl2 c247 s.1.1 s.1.2.1 s.1.2.2.1 s.1.2.2.2.1 s.1.2.2.2.2.1 s.1.2.2.2.2.2.1 s.2.1:=by kernel_rfl
noncomputable def C1n (x1:(List Int)) (y0:(List Int)):Option X1:=if 0≤(x1.length:Int)then(if(x1.length:Int)<(y0.length:Int)then(if 0≤wrap64 ((x1.length:Int)-1)then(if wrap64 ((x1.length:Int)-1)<(x1.length:Int)then(if rd y0 (x1.length:Int)≥rd x1 (wrap64 ((x1.length:Int)-1))then(if 0≤wrap64 ((x1.length:Int)-1)then(if wrap64 ((x1.length:Int)-1)<(y0.length:Int)then(if 0≤wrap64 ((x1.length:Int)-1)then(if wrap64 ((x1.length:Int)-1)<(x1.length:Int)then((c247 (rd y0 (wrap64 ((x1.length:Int)-1))) (rd x1 (wrap64 ((x1.length:Int)-1))) 0).bind fun r1=>(gl0 x1 (x1.length:Int) 18446744073709551615 r1.1 r1.2 y0))else(none))else(none))else(none))else(none))else(if 0≤(x1.length:Int)then(if(x1.length:Int)<(y0.length:Int)then(if 0≤wrap64 ((x1.length:Int)-1)then(if wrap64 ((x1.length:Int)-1)<(y0.length:Int)then(if 0≤wrap64 ((x1.length:Int)-1)then(if wrap64 ((x1.length:Int)-1)<(x1.length:Int)then((c277 (rd y0 (x1.length:Int)) (rd y0 (wrap64 ((x1.length:Int)-1))) (rd x1 (wrap64 ((x1.length:Int)-1)))).bind fun r2=>(gl0 x1 (x1.length:Int) r2.1 r2.2 0 y0))else(none))else(none))else(none))else(none))else(none))else(none)))else(none))else(none))else(none))else(none)
theorem F5Q (s:A4A.ask.T):A4A.ev E0 (B4y c246 c247 c248 c277) (B3C gl0 gl1 gl2) s=C1n gl0 c247 c277 s.1.1 s.2.1:=by kernel_rfl
end
noncomputable def C6h:Sk:=⟨[(0, .d (.li (.it .u64))),(1, .d (.li (.it .u64))),(6, .f (.a (.ref 6))),(7, .d (.it .u64)),(8, .d (.it .i64))],[(6, .own (.it .u64) true)]⟩
noncomputable def C8g:Sk:=⟨[(9, .d (.it .i64)),(10, .d (.li (.it .u64))),(11, .f (.a (.ref 11))),(12, .d (.it .i64)),(13, .f (.a (.ref 13))),(14, .d (.it .i64))],[(11, .own (.it .u64) true),(13, .own (.it .u64) true)]⟩
noncomputable def C0y:Sk:=⟨[(9, .d (.it .i64)),(11, .f (.a (.ref 11))),(12, .d (.it .i64)),(13, .f (.a (.ref 13))),(96, .d (.it .i64)),(97, .d (.it .i64))],[(11, .own (.it .u64) true),(13, .own (.it .u64) true)]⟩
noncomputable def B5b (gl0:(List Int)→(List Int)→Int→Int→(List Int)→Option V3) (gl1:Int→(List Int)→Int→Int→(List Int)→(List Int)→Option V3) (gl2:Int→Int→Int→Int→(List Int)→(List Int)→Option V3):List (C7 V3):=[⟨7,C6h,fun s=>gl0 s.1.1 s.1.2.1 s.1.2.2.1 s.1.2.2.2.1 s.2.1⟩,⟨17,C8g,fun s=>gl1 s.1.1 s.1.2.1 s.1.2.2.1 s.1.2.2.2.1 s.2.1 s.2.2.1⟩,⟨21,C0y,fun s=>gl2 s.1.1 s.1.2.1 s.1.2.2.1 s.1.2.2.2.1 s.2.1 s.2.2.1⟩]
noncomputable def B3n (c245:(List Int)→Option m6) (c276:(List Int)→(List Int)→Option A2A) (c277:Int→Int→Int→Option f9) (c278:Int→Option A6K) (c279:(List Int)→Int→Option A2u) (c280:(List Int)→(List Int)→Option X1):List FE:=[B7L c245,D3U c276,C6L c277,C1v c278,D3i c279,D7N c280]
section
variable (gl0:(List Int)→(List Int)→Int→Int→(List Int)→Option V3) (gl1:Int→(List Int)→Int→Int→(List Int)→(List Int)→Option V3) (gl2:Int→Int→Int→Int→(List Int)→(List Int)→Option V3) (c245:(List Int)→Option m6) (c276:(List Int)→(List Int)→Option A2A) (c277:Int→Int→Int→Option f9) (c278:Int→Option A6K) (c279:(List Int)→Int→Option A2u) (c280:(List Int)→(List Int)→Option X1)
noncomputable def C3H (x0:(List Int)) (x1:(List Int)) (x7:Int) (x8:Int) (x6:(List Int)):Option V3:=if x8≥0 then(if 0≤x8 then(if x8<(x0.length:Int)then(if(0:Int)≤0 then(if 0<(x1.length:Int)then((c277 x7 (rd x0 x8) (rd x1 0)).bind fun r1=>(if 0≤x8 then(if x8<(x6.length:Int)then(gl0 x0 x1 r1.2 (wrap64 (x8-1)) (x6.set (x8:Int).toNat r1.1))else(none))else(none)))else(none))else(none))else(none))else(none))else((c245 x6).bind fun r2=>((c245 ([x7]:List Int)).bind fun r3=>(some (r2.2.take (r2.1:Int).toNat,r3.2.take (r3.1:Int).toNat))))
theorem F2c (s0:C5 A3D.ask.bl) (s:C6h.T):A3D.po E0 (B3n c245 c276 c277 c278 c279 c280) (B5b gl0 gl1 gl2) s0 0 (C6h.mk' s)=C3H gl0 c245 c277 s.1.1 s.1.2.1 s.1.2.2.1 s.1.2.2.2.1 s.2.1:=by kernel_rfl
noncomputable def C4Y (x9:Int) (x10:(List Int)) (x12:Int) (x14:Int) (x11:(List Int)) (x13:(List Int)):Option V3:=if x14≥0 then(if 0≤x14 then(if x14≤wrap64 ((wrap64 (x14+x12))+1)then(if wrap64 ((wrap64 (x14+x12))+1)≤(x11.length:Int)then(if(x11.length:Int)≤(x11.length:Int)then((c280 x10 (slice_ x11 x14 (wrap64 ((wrap64 (x14+x12))+1)))).bind fun r1=>(if 0≤x14 then(if x14<(x13.length:Int)then(gl1 x9 x10 x12 (wrap64 (x14-1)) (x11.take ((x14:Int).toNat)++r1.2++x11.drop ((wrap64 ((wrap64 (x14+x12))+1):Int).toNat)) (x13.set (x14:Int).toNat r1.1))else(none))else(none)))else(none))else(none))else(none))else(none))else(gl2 x9 x12 x12 0 x11 x13)
theorem F0i (s0:C5 A3D.ask.bl) (s:C8g.T):A3D.po E0 (B3n c245 c276 c277 c278 c279 c280) (B5b gl0 gl1 gl2) s0 1 (C8g.mk' s)=C4Y gl1 gl2 c280 s.1.1 s.1.2.1 s.1.2.2.1 s.1.2.2.2.1 s.2.1 s.2.2.1:=by kernel_rfl
noncomputable def C4X (x9:Int) (x12:Int) (x96:Int) (x97:Int) (x11:(List Int)) (x13:(List Int)):Option V3:=if x97<x96 then(if 0≤x97 then(if x97<(x11.length:Int)then(if 0≤x9 then(if 0≤x97 then(if x97<(x11.length:Int)then(if x9>0 then(if wrap64 (x97+1)<((x11.set (x97:Int).toNat (shr .u64 (rd x11 x97) x9)).length:Int)then(if 0≤x97 then(if x97<((x11.set (x97:Int).toNat (shr .u64 (rd x11 x97) x9)).length:Int)then(if 0≤wrap64 (x97+1)then(if wrap64 (x97+1)<((x11.set (x97:Int).toNat (shr .u64 (rd x11 x97) x9)).length:Int)then(if 0≤wrap64 (64-x9)then(if 0≤x97 then(if x97<((x11.set (x97:Int).toNat (shr .u64 (rd x11 x97) x9)).length:Int)then(gl2 x9 x12 x96 (wrap64 (x97+1)) ((x11.set (x97:Int).toNat (shr .u64 (rd x11 x97) x9)).set (x97:Int).toNat (Go.bits .or .u64 (rd (x11.set (x97:Int).toNat (shr .u64 (rd x11 x97) x9)) x97) (shl .u64 (rd (x11.set (x97:Int).toNat (shr .u64 (rd x11 x97) x9)) (wrap64 (x97+1))) (wrap64 (64-x9))))) x13)else(none))else(none))else(none))else(none))else(none))else(none))else(none))else(gl2 x9 x12 x96 (wrap64 (x97+1)) (x11.set (x97:Int).toNat (shr .u64 (rd x11 x97) x9)) x13))else(gl2 x9 x12 x96 (wrap64 (x97+1)) (x11.set (x97:Int).toNat (shr .u64 (rd x11 x97) x9)) x13))else(none))else(none))else(none))else(none))else(none))else((c245 x13).bind fun r1=>(if(0:Int)≤0 then(if 0≤x12 then(if x12≤(x11.length:Int)then(if(x11.length:Int)≤(x11.length:Int)then((c245 (slice_ x11 0 x12)).bind fun r2=>(some (r1.2.take (r1.1:Int).toNat,slice_ (x11.take ((0:Int).toNat)++r2.2++x11.drop ((x12:Int).toNat)) 0 (0+r2.1))))else(none))else(none))else(none))else(none)))
theorem E4x (s0:C5 A3D.ask.bl) (s:C0y.T):A3D.po E0 (B3n c245 c276 c277 c278 c279 c280) (B5b gl0 gl1 gl2) s0 2 (C0y.mk' s)=C4X gl2 c245 s.1.1 s.1.2.1 s.1.2.2.1 s.1.2.2.2.1 s.2.1 s.2.2.1:=by kernel_rfl
noncomputable def C1X (x0:(List Int)) (x1:(List Int)):Option V3:=(c276 x0 x1).bind fun r1=>(if r1<0 then(some (([]:List Int),x0))else(if(x1.length:Int)=1 then(if 0≤(x0.length:Int)then(if(x0.length:Int)≤(x0.length:Int)then(if((x0.length:Int):Int).toNat≤35184372088832 then(gl0 x0 x1 0 (wrap64 ((x0.length:Int)-1)) (List.replicate ((x0.length:Int):Int).toNat (0:Int)))else(none))else(none))else(none))else(if 0≤wrap64 ((x1.length:Int)-1)then(if wrap64 ((x1.length:Int)-1)<(x1.length:Int)then((c278 (rd x1 (wrap64 ((x1.length:Int)-1)))).bind fun r2=>((c279 x1 r2).bind fun r3=>((c245 r3).bind fun r4=>((c279 x0 r2).bind fun r5=>(if 0≤wrap64 ((wrap64 ((x0.length:Int)-((r4.2.take (r4.1:Int).toNat).length:Int)))+1)then(if wrap64 ((wrap64 ((x0.length:Int)-((r4.2.take (r4.1:Int).toNat).length:Int)))+1)≤wrap64 ((wrap64 ((x0.length:Int)-((r4.2.take (r4.1:Int).toNat).length:Int)))+1)then(if(wrap64 ((wrap64 ((x0.length:Int)-((r4.2.take (r4.1:Int).toNat).length:Int)))+1):Int).toNat≤35184372088832 then(gl1 r2 (r4.2.take (r4.1:Int).toNat) ((r4.2.take (r4.1:Int).toNat).length:Int) (wrap64 ((x0.length:Int)-((r4.2.take (r4.1:Int).toNat).length:Int))) r5 (List.replicate (wrap64 ((wrap64 ((x0.length:Int)-((r4.2.take (r4.1:Int).toNat).length:Int)))+1):Int).toNat (0:Int)))else(none))else(none))else(none))))))else(none))else(none))))
theorem F6l (s:A3D.ask.T):A3D.ev E0 (B3n c245 c276 c277 c278 c279 c280) (B5b gl0 gl1 gl2) s=C1X gl0 gl1 c245 c276 c278 c279 s.1.1 s.1.2.1:=by kernel_rfl
end
noncomputable def C6p:Sk:=⟨[(5, .d (.li (.it .u64))),(6, .d (.li (.it .u64)))],[]⟩
noncomputable def C6C (gl0:(List Int)→(List Int)→Option z5):List (C7 z5):=[⟨2,C6p,fun s=>gl0 s.1.1 s.1.2.1⟩]
noncomputable def C3f (c223:(List Int)→Option K8) (c225:ByteArray→Option V4) (c244:(List Int)→(List Int)→Option V3):List FE:=[A6t c223,A8B c225,C2t c244]
section
variable (gl0:(List Int)→(List Int)→Option z5) (c223:(List Int)→Option K8) (c225:ByteArray→Option V4) (c244:(List Int)→(List Int)→Option V3)
noncomputable def C7Y (x5:(List Int)) (x6:(List Int)):Option z5:=if(x6.length:Int)>0 then((c244 x5 x6).bind fun r1=>(gl0 x6 r1.2))else((c223 x5).bind fun r2=>(some r2))
theorem F7T (s0:C5 B2g.ask.bl) (s:C6p.T):B2g.po E0 (C3f c223 c225 c244) (C6C gl0) s0 0 (C6p.mk' s)=C7Y gl0 c223 c244 s.1.1 s.1.2.1:=by kernel_rfl
noncomputable def D0x (x0:ByteArray) (x1:ByteArray):Option z5:=(c225 x0).bind fun r1=>((c225 x1).bind fun r2=>(gl0 r1 r2))
theorem F6n (s:B2g.ask.T):B2g.ev E0 (C3f c223 c225 c244) (C6C gl0) s=D0x gl0 c225 s.1.1 s.1.2.1:=by kernel_rfl
end
noncomputable def D2I (c213:TI→Option B0h) (c214:ByteArray→Option A5u) (c215:ByteArray→ByteArray→Option z5):List FE:=[D5s c213,C7y c214,D0F c215]
section
variable (c213:TI→Option B0h) (c214:ByteArray→Option A5u) (c215:ByteArray→ByteArray→Option z5)
noncomputable def A2i (x0:TQ):Option B0A:=(c213 x0.1).bind fun r1=>((c214 x0.2).bind fun r2=>(if r1=1 then(some 1)else(if r2=1 then(some 1)else(B3 ((E4 x0.2 (⟨#[]⟩:ByteArray))) (some 1) (if r1≠0 then(some r1)else(if r2≠0 then(some r2)else(B3 ((!(E4 x0.2 (⟨#[1]⟩:ByteArray)))) ((c215 x0.1.2 x0.2).bind fun r3=>(B3 ((!(E4 r3 (⟨#[1]⟩:ByteArray)))) (some 1) (some 0))) (some 0))))))))
theorem E3d (s:B8j.ask.T):B8j.ev E0 (D2I c213 c214 c215) [] s=A2i c213 c214 c215 s.1.1:=by kernel_rfl
end
noncomputable def C4p:Sk:=⟨[(0, .d (.li (.ag (.pr (.ag (.pr .bo .st)) .st)))),(9, .d (.li (.ag (.pr (.ag (.pr .bo .st)) .st)))),(10, .d (.it .i64)),(11, .d (.it .i64))],[]⟩
noncomputable def C7w (gl0:(List TQ)→(List TQ)→Int→Int→Option A0U):List (C7 A0U):=[⟨4,C4p,fun s=>gl0 s.1.1 s.1.2.1 s.1.2.2.1 s.1.2.2.2.1⟩]
noncomputable def C7z (c152:TQ→Option A1F) (c172:TQ→Option B0A):List FE:=[B4g c152,D9D c172]
section
variable (gl0:(List TQ)→(List TQ)→Int→Int→Option A0U) (c152:TQ→Option A1F) (c172:TQ→Option B0A)
noncomputable def A7x (x0:(List TQ)) (x9:(List TQ)) (x10:Int) (x11:Int):Option A0U:=if x11<x10 then(if 0≤x11 then(if x11<(x9.length:Int)then((c172 (C4 ((false,(⟨#[]⟩:ByteArray)),(⟨#[]⟩:ByteArray)) x9 x11)).bind fun r1=>(if r1≠0 then(some r1)else(gl0 x0 x9 x10 (wrap64 (x11+1)))))else(none))else(none))else(if(x0.length:Int)>0 then(if 0≤wrap64 ((x0.length:Int)-1)then(if wrap64 ((x0.length:Int)-1)<(x0.length:Int)then((c152 (C4 ((false,(⟨#[]⟩:ByteArray)),(⟨#[]⟩:ByteArray)) x0 (wrap64 ((x0.length:Int)-1)))).bind fun r2=>(B3 (r2) (some 1) (some 0)))else(none))else(none))else(some 0))
theorem E3x (s0:C5 B2t.ask.bl) (s:C4p.T):B2t.po E0 (C7z c152 c172) (C7w gl0) s0 0 (C4p.mk' s)=A7x gl0 c152 c172 s.1.1 s.1.2.1 s.1.2.2.1 s.1.2.2.2.1:=by kernel_rfl
noncomputable def B3q (x0:(List TQ)):Option A0U:=if(x0.length:Int)>65 then(some 4)else(gl0 x0 x0 (x0.length:Int) 0)
theorem F0G (s:B2t.ask.T):B2t.ev E0 (C7z c152 c172) (C7w gl0) s=B3q gl0 s.1.1:=by kernel_rfl
end
noncomputable def C5c (x0:TQ):Option B0v:=some (E4 x0.2 (⟨#[1]⟩:ByteArray))
theorem F0r (s:B8X.ask.T):B8X.ev E0 [] [] s=C5c s.1.1:=by kernel_rfl
noncomputable def D7g (c171:TQ→Option B0v):List FE:=[D9C c171]
section
variable (c171:TQ→Option B0v)
noncomputable def C2L (x0:TQ):Option B2J:=(c171 x0).bind fun r1=>(some (!r1))
theorem E7Z (s:C0i.ask.T):C0i.ev E0 (D7g c171) [] s=C2L c171 s.1.1:=by kernel_rfl
end
noncomputable def C5j:Sk:=⟨[(0, .d (.li (.ag (.pr (.ag (.pr .bo .st)) .st)))),(1, .f (.cl 170 [])),(7, .d (.it .i64)),(8, .d (.it .i64))],[]⟩
noncomputable def C3b (gl0:(List TQ)→Int→Int→Option A2p):List (C7 A2p):=[⟨2,C5j,fun s=>gl0 s.1.1 s.1.2.1 s.1.2.2.1⟩]
noncomputable def C1e (c170:TQ→Option B2J):List FE:=[D9I c170]
section
variable (gl0:(List TQ)→Int→Int→Option A2p) (c170:TQ→Option B2J)
noncomputable def A8Z (x0:(List TQ)) (x7:Int) (x8:Int):Option A2p:=if x8<x7 then(if 0≤x8 then(if x8<(x0.length:Int)then((c170 (C4 ((false,(⟨#[]⟩:ByteArray)),(⟨#[]⟩:ByteArray)) x0 x8)).bind fun r1=>(B3 (r1) (some x8) (gl0 x0 x7 (wrap64 (x8+1)))))else(none))else(none))else(some (-1))
theorem F5V (s0:C5 B1n.ask.bl) (s:C5j.T):B1n.po E0 (C1e c170) (C3b gl0) s0 0 (C5j.mk' s)=A8Z gl0 c170 s.1.1 s.1.2.1 s.1.2.2.1:=by kernel_rfl
noncomputable def B4m (x0:(List TQ)):Option A2p:=gl0 x0 (x0.length:Int) 0
theorem F3r (s:B1n.ask.T):B1n.ev E0 (C1e c170) (C3b gl0) s=B4m gl0 s.1.1:=by kernel_rfl
end
noncomputable def D2C (c194Form:(List TQ)→Option A2p):List FE:=[D5a c194Form]
section
variable (c194Form:(List TQ)→Option A2p)
noncomputable def C6Z (x0:(List TQ)):Option B0C:=(c194Form x0).bind fun r1=>(some (decide (r1≥0)))
theorem F1V (s:B9S.ask.T):B9S.ev E0 (D2C c194Form) [] s=C6Z c194Form s.1.1:=by kernel_rfl
end
noncomputable def D3O (c89:Int→Option X8) (c120:(List TQ)→Option A0U) (c153Form:(List TQ)→Option B0C):List FE:=[A6O c89,C8I c120,D2B c153Form]
section
variable (c89:Int→Option X8) (c120:(List TQ)→Option A0U) (c153Form:(List TQ)→Option B0C)
noncomputable def B5o (x0:(List TQ)):Option A9a:=(c120 x0).bind fun r1=>(if r1≠0 then(some r1)else(if wrap64 ((x0.length:Int)-1)<1 then(some 1)else(if 0≤wrap64 ((x0.length:Int)-1)then(if wrap64 ((x0.length:Int)-1)<(x0.length:Int)then((c89 1).bind fun r2=>(B3 ((!((((((C4 ((false,(⟨#[]⟩:ByteArray)),(⟨#[]⟩:ByteArray)) x0 (wrap64 ((x0.length:Int)-1))).1).1)==r2.1.1)&&(E4 (((C4 ((false,(⟨#[]⟩:ByteArray)),(⟨#[]⟩:ByteArray)) x0 (wrap64 ((x0.length:Int)-1))).1).2) r2.1.2))&&(E4 ((C4 ((false,(⟨#[]⟩:ByteArray)),(⟨#[]⟩:ByteArray)) x0 (wrap64 ((x0.length:Int)-1))).2) r2.2)))) (some 1) ((c153Form x0).bind fun r3=>(B3 (r3) (some 1) (if wrap64 ((x0.length:Int)-1)>24 then(some 4)else(some 0))))))else(none))else(none))))
theorem E6h (s:B9r.ask.T):B9r.ev E0 (D3O c89 c120 c153Form) [] s=B5o c89 c120 c153Form s.1.1:=by kernel_rfl
end
noncomputable def D8T (c120:(List TQ)→Option A0U):List FE:=[C8I c120]
section
variable (c120:(List TQ)→Option A0U)
noncomputable def B3F (x0:(List TQ)) (x1:(List TQ)):Option A6F:=(c120 x1).bind fun r1=>(if r1≠0 then(some r1)else(if(x1.length:Int)≥(x0.length:Int)then(some 3)else(some 0)))
theorem E5b (s:C0D.ask.T):C0D.ev E0 (D8T c120) [] s=B3F c120 s.1.1 s.1.2.1:=by kernel_rfl
end
noncomputable def C3c:Sk:=⟨[(1, .d (.li (.li (.ag (.pr (.ag (.pr .bo .st)) .st))))),(2, .f (.a (.ptr 2 0 []))),(11, .d (.li (.li (.ag (.pr (.ag (.pr .bo .st)) .st))))),(12, .d (.it .i64)),(13, .d (.it .i64))],[(2, .cell (.ag (.li (.ag (.pr (.ag (.pr .bo .st)) .st)))) true)]⟩
noncomputable def C9z (gl0:(List (List TQ))→(List (List TQ))→Int→Int→(List TQ)→Option A2J):List (C7 A2J):=[⟨4,C3c,fun s=>gl0 s.1.1 s.1.2.1 s.1.2.2.1 s.1.2.2.2.1 s.2.1⟩]
noncomputable def C7V (c124:(List TQ)→(List TQ)→Option A6F):List FE:=[C2h c124]
section
variable (gl0:(List (List TQ))→(List (List TQ))→Int→Int→(List TQ)→Option A2J) (c124:(List TQ)→(List TQ)→Option A6F)
noncomputable def A9R (x1:(List (List TQ))) (x11:(List (List TQ))) (x12:Int) (x13:Int) (x2:(List TQ)):Option A2J:=if x13<x12 then(if 0≤x13 then(if x13<(x11.length:Int)then((c124 x2 (C4 ([]:List TQ) x11 x13)).bind fun r1=>(if r1≠0 then(some r1)else(gl0 x1 x11 x12 (wrap64 (x13+1)) x2)))else(none))else(none))else(if(x1.length:Int)>0 then(if 0≤wrap64 ((x1.length:Int)-1)then(if wrap64 ((x1.length:Int)-1)<(x1.length:Int)then(if((C4 ([]:List TQ) x1 (wrap64 ((x1.length:Int)-1))).length:Int)=0 then(some 1)else(some 0))else(none))else(none))else(some 0))
theorem E3I (s0:C5 B1I.ask.bl) (s:C3c.T):B1I.po E0 (C7V c124) (C9z gl0) s0 0 (C3c.mk' s)=A9R gl0 c124 s.1.1 s.1.2.1 s.1.2.2.1 s.1.2.2.2.1 s.2.1:=by kernel_rfl
noncomputable def B3w (x0:(List TQ)) (x1:(List (List TQ))):Option A2J:=if(x1.length:Int)>65 then(some 4)else(gl0 x1 x1 (x1.length:Int) 0 x0)
theorem F4y (s:B1I.ask.T):B1I.ev E0 (C7V c124) (C9z gl0) s=B3w gl0 s.1.1 s.1.2.1:=by kernel_rfl
end
noncomputable def C7i:Sk:=⟨[(2, .f (.a (.ptr 2 0 []))),(14, .d (.li (.li (.li (.ag (.pr (.ag (.pr .bo .st)) .st)))))),(15, .d (.it .i64)),(16, .d (.it .i64))],[(2, .cell (.ag (.li (.ag (.pr (.ag (.pr .bo .st)) .st)))) true)]⟩
noncomputable def C9a (gl0:(List (List (List TQ)))→Int→Int→(List TQ)→Option Q4):List (C7 Q4):=[⟨5,C7i,fun s=>gl0 s.1.1 s.1.2.1 s.1.2.2.1 s.2.1⟩]
noncomputable def C6N (c119:(List TQ)→Option A9a) (c138:(List TQ)→(List (List TQ))→Option A2J):List FE:=[D5t c119,D7E c138]
section
variable (gl0:(List (List (List TQ)))→Int→Int→(List TQ)→Option Q4) (c119:(List TQ)→Option A9a) (c138:(List TQ)→(List (List TQ))→Option A2J)
noncomputable def A8R (x14:(List (List (List TQ)))) (x15:Int) (x16:Int) (x2:(List TQ)):Option Q4:=if x16<x15 then(if 0≤x16 then(if x16<(x14.length:Int)then((c138 x2 (C4 ([]:List (List TQ)) x14 x16)).bind fun r1=>(if r1≠0 then(some r1)else(gl0 x14 x15 (wrap64 (x16+1)) x2)))else(none))else(none))else(some 0)
theorem F4W (s0:C5 D83.ask.bl) (s:C7i.T):D83.po E0 (C6N c119 c138) (C9a gl0) s0 0 (C7i.mk' s)=A8R gl0 c138 s.1.1 s.1.2.1 s.1.2.2.1 s.2.1:=by kernel_rfl
noncomputable def B83 (x0:(List TQ)) (x1:(List (List (List TQ)))):Option Q4:=(c119 x0).bind fun r1=>(if r1≠0 then(some r1)else(gl0 x1 (x1.length:Int) 0 x0))
theorem e83 (s:D83.ask.T):D83.ev E0 (C6N c119 c138) (C9a gl0) s=B83 gl0 c119 s.1.1 s.1.2.1:=by kernel_rfl
end
noncomputable def C5E:Sk:=⟨[(1, .d (.li (.it .u64))),(5, .f (.a (.ref 5))),(20, .d (.li (.it .u64))),(21, .d (.it .i64)),(22, .d (.it .i64))],[(5, .own (.it .u64) true)]⟩
noncomputable def C5U:Sk:=⟨[(1, .d (.li (.it .u64))),(5, .f (.a (.ref 5))),(6, .d (.it .i64)),(7, .d (.it .u64)),(8, .d (.it .u64)),(20, .d (.li (.it .u64))),(21, .d (.it .i64)),(22, .d (.it .i64)),(27, .d (.li (.it .u64))),(28, .d (.it .i64)),(29, .d (.it .i64))],[(5, .own (.it .u64) true)]⟩
noncomputable def C0a (gl0:(List Int)→(List Int)→Int→Int→(List Int)→Option e9) (gl1:(List Int)→Int→Int→Int→(List Int)→Int→Int→(List Int)→Int→Int→(List Int)→Option e9):List (C7 e9):=[⟨3,C5E,fun s=>gl0 s.1.1 s.1.2.1 s.1.2.2.1 s.1.2.2.2.1 s.2.1⟩,⟨7,C5U,fun s=>gl1 s.1.1 s.1.2.1 s.1.2.2.1 s.1.2.2.2.1 s.1.2.2.2.2.1 s.1.2.2.2.2.2.1 s.1.2.2.2.2.2.2.1 s.1.2.2.2.2.2.2.2.1 s.1.2.2.2.2.2.2.2.2.1 s.1.2.2.2.2.2.2.2.2.2.1 s.2.1⟩]
noncomputable def B8Z (c245:(List Int)→Option m6) (c246:Int→Int→Option A6c) (c247:Int→Int→Int→Option A4Z):List FE:=[B7L c245,C4R c246,C0P c247]
section
variable (gl0:(List Int)→(List Int)→Int→Int→(List Int)→Option e9) (gl1:(List Int)→Int→Int→Int→(List Int)→Int→Int→(List Int)→Int→Int→(List Int)→Option e9) (c245:(List Int)→Option m6) (c246:Int→Int→Option A6c) (c247:Int→Int→Int→Option A4Z)
noncomputable def C2U (x1:(List Int)) (x20:(List Int)) (x21:Int) (x22:Int) (x5:(List Int)):Option e9:=if x22<x21 then(if 0≤x22 then(if x22<(x20.length:Int)then(gl1 x1 x22 (rd x20 x22) 0 x20 x21 x22 x1 (x1.length:Int) 0 x5)else(none))else(none))else((c245 x5).bind fun r1=>(some (r1.2.take (r1.1:Int).toNat)))
theorem F6P (s0:C5 A6X.ask.bl) (s:C5E.T):A6X.po E0 (B8Z c245 c246 c247) (C0a gl0 gl1) s0 0 (C5E.mk' s)=C2U gl1 c245 s.1.1 s.1.2.1 s.1.2.2.1 s.1.2.2.2.1 s.2.1:=by kernel_rfl
noncomputable def C8d (x1:(List Int)) (x6:Int) (x7:Int) (x8:Int) (x20:(List Int)) (x21:Int) (x22:Int) (x27:(List Int)) (x28:Int) (x29:Int) (x5:(List Int)):Option e9:=if x29<x28 then(if 0≤x29 then(if x29<(x27.length:Int)then((c246 x7 (rd x27 x29)).bind fun r1=>(if 0≤wrap64 (x6+x29)then(if wrap64 (x6+x29)<(x5.length:Int)then((c247 r1.2 (rd x5 (wrap64 (x6+x29))) 0).bind fun r2=>((c247 r2.1 x8 0).bind fun r3=>(if 0≤wrap64 (x6+x29)then(if wrap64 (x6+x29)<(x5.length:Int)then(gl1 x1 x6 x7 (IntKind.u64.wrap ((IntKind.u64.wrap (r1.1+r2.2))+r3.2)) x20 x21 x22 x27 x28 (wrap64 (x29+1)) (x5.set (wrap64 (x6+x29):Int).toNat r3.1))else(none))else(none))))else(none))else(none)))else(none))else(none))else(if 0≤wrap64 (x6+(x1.length:Int))then(if wrap64 (x6+(x1.length:Int))<(x5.length:Int)then(gl0 x1 x20 x21 (wrap64 (x22+1)) (x5.set (wrap64 (x6+(x1.length:Int)):Int).toNat x8))else(none))else(none))
theorem E1N (s0:C5 A6X.ask.bl) (s:C5U.T):A6X.po E0 (B8Z c245 c246 c247) (C0a gl0 gl1) s0 1 (C5U.mk' s)=C8d gl0 gl1 c246 c247 s.1.1 s.1.2.1 s.1.2.2.1 s.1.2.2.2.1 s.1.2.2.2.2.1 s.1.2.2.2.2.2.1 s.1.2.2.2.2.2.2.1 s.1.2.2.2.2.2.2.2.1 s.1.2.2.2.2.2.2.2.2.1 s.1.2.2.2.2.2.2.2.2.2.1 s.2.1:=by kernel_rfl
noncomputable def D0u (x0:(List Int)) (x1:(List Int)):Option e9:=if 0≤wrap64 ((x0.length:Int)+(x1.length:Int))then(if wrap64 ((x0.length:Int)+(x1.length:Int))≤wrap64 ((x0.length:Int)+(x1.length:Int))then(if(wrap64 ((x0.length:Int)+(x1.length:Int)):Int).toNat≤35184372088832 then(gl0 x1 x0 (x0.length:Int) 0 (List.replicate (wrap64 ((x0.length:Int)+(x1.length:Int)):Int).toNat (0:Int)))else(none))else(none))else(none)
theorem E1C (s:A6X.ask.T):A6X.ev E0 (B8Z c245 c246 c247) (C0a gl0 gl1) s=D0u gl0 s.1.1 s.1.2.1:=by kernel_rfl
end
noncomputable def D6W (c223:(List Int)→Option K8) (c224:(List Int)→(List Int)→Option e9) (c225:ByteArray→Option V4):List FE:=[A6t c223,C6s c224,A8B c225]
section
variable (c223:(List Int)→Option K8) (c224:(List Int)→(List Int)→Option e9) (c225:ByteArray→Option V4)
noncomputable def C1c (x0:ByteArray) (x1:ByteArray):Option A3a:=(c225 x0).bind fun r1=>((c225 x1).bind fun r2=>((c224 r1 r2).bind fun r3=>((c223 r3).bind fun r4=>(some r4))))
theorem D9w (s:C0N.ask.T):C0N.ev E0 (D6W c223 c224 c225) [] s=C1c c223 c224 c225 s.1.1 s.1.2.1:=by kernel_rfl
end
noncomputable def C5P (x0:Bool) (x1:ByteArray):Option i4:=B3 (x0) (some ((!(E4 x1 (⟨#[]⟩:ByteArray))),x1)) (some (false,x1))
theorem F7g (s:B6x.ask.T):B6x.ev E0 [] [] s=C5P s.1.1 s.1.2.1:=by kernel_rfl
noncomputable def D4F (c186:ByteArray→ByteArray→Option A3a) (c192:Bool→ByteArray→Option i4):List FE:=[B8n c186,A7Y c192]
section
variable (c186:ByteArray→ByteArray→Option A3a) (c192:Bool→ByteArray→Option i4)
noncomputable def C1p (x0:TI) (x1:TI):Option B0P:=(c186 x0.2 x1.2).bind fun r1=>((c192 (!(x0.1==x1.1)) r1).bind fun r2=>(some (r2.1,r2.2)))
theorem E5g (s:C0m.ask.T):C0m.ev E0 (D4F c186 c192) [] s=C1p c186 c192 s.1.1 s.1.2.1:=by kernel_rfl
end
noncomputable def D9H (c223:(List Int)→Option K8) (c225:ByteArray→Option V4) (c244:(List Int)→(List Int)→Option V3):List FE:=[A6t c223,A8B c225,C2t c244]
section
variable (c223:(List Int)→Option K8) (c225:ByteArray→Option V4) (c244:(List Int)→(List Int)→Option V3)
noncomputable def C5t (x0:ByteArray) (x1:ByteArray):Option B0K:=(c225 x0).bind fun r1=>((c225 x1).bind fun r2=>((c244 r1 r2).bind fun r3=>((c223 r3.1).bind fun r4=>((c223 r3.2).bind fun r5=>(some (r4,r5))))))
theorem F7e (s:C0R.ask.T):C0R.ev E0 (D9H c223 c225 c244) [] s=C5t c223 c225 c244 s.1.1 s.1.2.1:=by kernel_rfl
end
noncomputable def D4Y (c192:Bool→ByteArray→Option i4) (c215:ByteArray→ByteArray→Option z5) (c222:ByteArray→ByteArray→Option B0K):List FE:=[A7Y c192,D0F c215,D6j c222]
section
variable (c192:Bool→ByteArray→Option i4) (c215:ByteArray→ByteArray→Option z5) (c222:ByteArray→ByteArray→Option B0K)
noncomputable def B3P (x0:TI) (x1:TI):Option A6Y:=(c215 x0.2 x1.2).bind fun r1=>(B3 ((!(E4 r1 (⟨#[1]⟩:ByteArray)))) ((c222 x0.2 r1).bind fun r2=>((c222 x1.2 r1).bind fun r3=>((c192 (!(x0.1==x1.1)) r2.1).bind fun r4=>(some ((r4.1,r4.2),r3.1))))) ((c192 (!(x0.1==x1.1)) x0.2).bind fun r5=>(some ((r5.1,r5.2),x1.2))))
theorem E1M (s:B8c.ask.T):B8c.ev E0 (D4Y c192 c215 c222) [] s=B3P c192 c215 c222 s.1.1 s.1.2.1:=by kernel_rfl
end
noncomputable def D5E (c149:TI→Option A3Q) (c184:TI→TI→Option B0P) (c185:TI→TI→Option A6Y) (c186:ByteArray→ByteArray→Option A3a):List FE:=[B5x c149,D9V c184,C5N c185,B8n c186]
section
variable (c149:TI→Option A3Q) (c184:TI→TI→Option B0P) (c185:TI→TI→Option A6Y) (c186:ByteArray→ByteArray→Option A3a)
noncomputable def B1d (x0:TQ) (x1:TQ):Option v4:=B3 ((E4 x0.2 (⟨#[1]⟩:ByteArray))) (B3 ((E4 x1.2 (⟨#[1]⟩:ByteArray))) ((c184 x0.1 x1.1).bind fun r1=>((c149 (r1.1,r1.2)).bind fun r2=>(some (r2.1,r2.2)))) ((c184 x0.1 x1.1).bind fun r3=>((c186 x0.2 x1.2).bind fun r4=>((c185 (r3.1,r3.2) (false,r4)).bind fun r5=>(some (r5.1,r5.2)))))) ((c184 x0.1 x1.1).bind fun r6=>((c186 x0.2 x1.2).bind fun r7=>((c185 (r6.1,r6.2) (false,r7)).bind fun r8=>(some (r8.1,r8.2)))))
theorem E0Y (s:B9n.ask.T):B9n.ev E0 (D5E c149 c184 c185 c186) [] s=B1d c149 c184 c185 c186 s.1.1 s.1.2.1:=by kernel_rfl
end
noncomputable def D0C:Sk:=⟨[(1, .d (.it .i64)),(5, .d (.li (.it .u64))),(6, .d (.li (.it .u64)))],[]⟩
noncomputable def C5m (gl0:Int→(List Int)→(List Int)→Option A0i):List (C7 A0i):=[⟨2,D0C,fun s=>gl0 s.1.1 s.1.2.1 s.1.2.2.1⟩]
noncomputable def C4Z (c223:(List Int)→Option K8) (c224:(List Int)→(List Int)→Option e9) (c225:ByteArray→Option V4):List FE:=[A6t c223,C6s c224,A8B c225]
section
variable (gl0:Int→(List Int)→(List Int)→Option A0i) (c223:(List Int)→Option K8) (c224:(List Int)→(List Int)→Option e9) (c225:ByteArray→Option V4)
noncomputable def C5l (x1:Int) (x5:(List Int)) (x6:(List Int)):Option A0i:=if x1>0 then(if Go.bits .and .i64 x1 1=1 then((c224 x5 x6).bind fun r1=>((c224 x6 x6).bind fun r2=>(if(0:Int)≤1 then(gl0 (x1/2) r1 r2)else(none))))else((c224 x6 x6).bind fun r3=>(if(0:Int)≤1 then(gl0 (x1/2) x5 r3)else(none))))else((c223 x5).bind fun r4=>(some r4))
theorem E0K (s0:C5 B1Z.ask.bl) (s:D0C.T):B1Z.po E0 (C4Z c223 c224 c225) (C5m gl0) s0 0 (D0C.mk' s)=C5l gl0 c223 c224 s.1.1 s.1.2.1 s.1.2.2.1:=by kernel_rfl
noncomputable def C4r (x0:ByteArray) (x1:Int):Option A0i:=(c225 x0).bind fun r1=>(gl0 x1 ([1]:List Int) r1)
theorem E6l (s:B1Z.ask.T):B1Z.ev E0 (C4Z c223 c224 c225) (C5m gl0) s=C4r gl0 c225 s.1.1 s.1.2.1:=by kernel_rfl
end
noncomputable def D7Y (c188:ByteArray→Int→Option A0i) (c192:Bool→ByteArray→Option i4):List FE:=[C6T c188,A7Y c192]
section
variable (c188:ByteArray→Int→Option A0i) (c192:Bool→ByteArray→Option i4)
noncomputable def C1P (x0:TI) (x1:Int):Option B2i:=B3 (x0.1) (if(2:Int)=0 then(none)else((c188 x0.2 x1).bind fun r1=>((c192 (decide (Int.tmod x1 2=1)) r1).bind fun r2=>(some (r2.1,r2.2))))) ((c188 x0.2 x1).bind fun r3=>((c192 false r3).bind fun r4=>(some (r4.1,r4.2))))
theorem E9k (s:B9R.ask.T):B9R.ev E0 (D7Y c188 c192) [] s=C1P c188 c192 s.1.1 s.1.2.1:=by kernel_rfl
end
noncomputable def D4e (c187:TI→Int→Option B2i) (c188:ByteArray→Int→Option A0i):List FE:=[D7R c187,C6T c188]
section
variable (c187:TI→Int→Option B2i) (c188:ByteArray→Int→Option A0i)
noncomputable def C1j (x0:TQ) (x1:Int):Option B0u:=(c187 x0.1 x1).bind fun r1=>((c188 x0.2 x1).bind fun r2=>(some ((r1.1,r1.2),r2)))
theorem F2d (s:B7Y.ask.T):B7Y.ev E0 (D4e c187 c188) [] s=C1j c187 c188 s.1.1 s.1.2.1:=by kernel_rfl
end
noncomputable def D1x (c192:Bool→ByteArray→Option i4):List FE:=[A7Y c192]
section
variable (c192:Bool→ByteArray→Option i4)
noncomputable def C7E (x0:TI):Option B2I:=(c192 (!x0.1) x0.2).bind fun r1=>(some (r1.1,r1.2))
theorem E3X (s:B5z.ask.T):B5z.ev E0 (D1x c192) [] s=C7E c192 s.1.1:=by kernel_rfl
end
noncomputable def D6O (c190:TI→Option B2I):List FE:=[D9B c190]
section
variable (c190:TI→Option B2I)
noncomputable def B9t (x0:TQ):Option A6V:=(c190 x0.1).bind fun r1=>(some ((r1.1,r1.2),x0.2))
theorem E4h (s:B9T.ask.T):B9T.ev E0 (D6O c190) [] s=B9t c190 s.1.1:=by kernel_rfl
end
noncomputable def C8U:Sk:=⟨[(5, .f (.a (.ref 5))),(6, .f (.a (.ref 6))),(7, .f (.a (.ref 7))),(8, .d (.it .u64)),(27, .d (.it .i64)),(28, .d (.it .i64))],[(5, .own (.it .u64) true),(6, .own (.it .u64) true),(7, .own (.it .u64) true)]⟩
noncomputable def C7m (gl0:Int→Int→Int→(List Int)→(List Int)→(List Int)→Option A2H):List (C7 A2H):=[⟨7,C8U,fun s=>gl0 s.1.1 s.1.2.1 s.1.2.2.1 s.2.1 s.2.2.1 s.2.2.2.1⟩]
noncomputable def C8m (c223:(List Int)→Option K8) (c225:ByteArray→Option V4) (c247:Int→Int→Int→Option A4Z):List FE:=[A6t c223,A8B c225,C0P c247]
section
variable (gl0:Int→Int→Int→(List Int)→(List Int)→(List Int)→Option A2H) (c223:(List Int)→Option K8) (c225:ByteArray→Option V4) (c247:Int→Int→Int→Option A4Z)
noncomputable def C2d (x8:Int) (x27:Int) (x28:Int) (x5:(List Int)) (x6:(List Int)) (x7:(List Int)):Option A2H:=if x28<x27 then(if x28<(x6.length:Int)then(if 0≤x28 then(if x28<(x6.length:Int)then(if 0≤x28 then(if x28<(x5.length:Int)then((c247 (rd x5 x28) (rd x6 x28) x8).bind fun r1=>(if 0≤x28 then(if x28<(x7.length:Int)then(gl0 r1.2 x27 (wrap64 (x28+1)) x5 x6 (x7.set (x28:Int).toNat r1.1))else(none))else(none)))else(none))else(none))else(none))else(none))else(if 0≤x28 then(if x28<(x5.length:Int)then((c247 (rd x5 x28) 0 x8).bind fun r2=>(if 0≤x28 then(if x28<(x7.length:Int)then(gl0 r2.2 x27 (wrap64 (x28+1)) x5 x6 (x7.set (x28:Int).toNat r2.1))else(none))else(none)))else(none))else(none)))else(if 0≤(x5.length:Int)then(if(x5.length:Int)<(x7.length:Int)then((c223 (x7.set ((x5.length:Int):Int).toNat x8)).bind fun r3=>(some r3))else(none))else(none))
theorem F4l (s0:C5 B2R.ask.bl) (s:C8U.T):B2R.po E0 (C8m c223 c225 c247) (C7m gl0) s0 0 (C8U.mk' s)=C2d gl0 c223 c247 s.1.1 s.1.2.1 s.1.2.2.1 s.2.1 s.2.2.1 s.2.2.2.1:=by kernel_rfl
noncomputable def C3M (x0:ByteArray) (x1:ByteArray):Option A2H:=(c225 x0).bind fun r1=>((c225 x1).bind fun r2=>(if(r1.length:Int)<(r2.length:Int)then(if 0≤wrap64 ((r2.length:Int)+1)then(if wrap64 ((r2.length:Int)+1)≤wrap64 ((r2.length:Int)+1)then(if(wrap64 ((r2.length:Int)+1):Int).toNat≤35184372088832 then(gl0 0 (r2.length:Int) 0 r2 r1 (List.replicate (wrap64 ((r2.length:Int)+1):Int).toNat (0:Int)))else(none))else(none))else(none))else(if 0≤wrap64 ((r1.length:Int)+1)then(if wrap64 ((r1.length:Int)+1)≤wrap64 ((r1.length:Int)+1)then(if(wrap64 ((r1.length:Int)+1):Int).toNat≤35184372088832 then(gl0 0 (r1.length:Int) 0 r1 r2 (List.replicate (wrap64 ((r1.length:Int)+1):Int).toNat (0:Int)))else(none))else(none))else(none))))
theorem F2Y (s:B2R.ask.T):B2R.ev E0 (C8m c223 c225 c247) (C7m gl0) s=C3M gl0 c225 s.1.1 s.1.2.1:=by kernel_rfl
end
noncomputable def C7t (x0:ByteArray) (x1:ByteArray):Option B0O:=if(x0.size:Int)<(x1.size:Int)then(some (-1))else(if(x0.size:Int)=(x1.size:Int)then(B3 ((Op.bytesLess x0.toList x1.toList)) (some (-1)) (B3 ((E4 x0 x1)) (some 0) (some 1)))else(B3 ((E4 x0 x1)) (some 0) (some 1)))
theorem F7R (s:C0Y.ask.T):C0Y.ev E0 [] [] s=C7t s.1.1 s.1.2.1:=by kernel_rfl
noncomputable def C3P:Sk:=⟨[(5, .f (.a (.ref 5))),(6, .f (.a (.ref 6))),(7, .d (.it .u64)),(15, .d (.it .i64)),(16, .d (.it .i64))],[(5, .own (.it .u64) true),(6, .own (.it .u64) true)]⟩
noncomputable def C2r (gl0:Int→Int→Int→(List Int)→(List Int)→Option A2r):List (C7 A2r):=[⟨4,C3P,fun s=>gl0 s.1.1 s.1.2.1 s.1.2.2.1 s.2.1 s.2.2.1⟩]
noncomputable def C2s (c223:(List Int)→Option K8) (c225:ByteArray→Option V4) (c248:Int→Int→Int→Option A7A):List FE:=[A6t c223,A8B c225,C7B c248]
section
variable (gl0:Int→Int→Int→(List Int)→(List Int)→Option A2r) (c223:(List Int)→Option K8) (c225:ByteArray→Option V4) (c248:Int→Int→Int→Option A7A)
noncomputable def D0J (x7:Int) (x15:Int) (x16:Int) (x5:(List Int)) (x6:(List Int)):Option A2r:=if x16<x15 then(if x16<(x6.length:Int)then(if 0≤x16 then(if x16<(x6.length:Int)then(if 0≤x16 then(if x16<(x5.length:Int)then((c248 (rd x5 x16) (rd x6 x16) x7).bind fun r1=>(if 0≤x16 then(if x16<(x5.length:Int)then(gl0 r1.2 x15 (wrap64 (x16+1)) (x5.set (x16:Int).toNat r1.1) x6)else(none))else(none)))else(none))else(none))else(none))else(none))else(if 0≤x16 then(if x16<(x5.length:Int)then((c248 (rd x5 x16) 0 x7).bind fun r2=>(if 0≤x16 then(if x16<(x5.length:Int)then(gl0 r2.2 x15 (wrap64 (x16+1)) (x5.set (x16:Int).toNat r2.1) x6)else(none))else(none)))else(none))else(none)))else((c223 x5).bind fun r3=>(some r3))
theorem F6R (s0:C5 B0t.ask.bl) (s:C3P.T):B0t.po E0 (C2s c223 c225 c248) (C2r gl0) s0 0 (C3P.mk' s)=D0J gl0 c223 c248 s.1.1 s.1.2.1 s.1.2.2.1 s.2.1 s.2.2.1:=by kernel_rfl
noncomputable def C6O (x0:ByteArray) (x1:ByteArray):Option A2r:=(c225 x0).bind fun r1=>((c225 x1).bind fun r2=>(gl0 0 (r1.length:Int) 0 r1 r2))
theorem E5z (s:B0t.ask.T):B0t.ev E0 (C2s c223 c225 c248) (C2r gl0) s=C6O gl0 c225 s.1.1 s.1.2.1:=by kernel_rfl
end
noncomputable def D9a (c192:Bool→ByteArray→Option i4) (c226:ByteArray→ByteArray→Option A2H) (c227:ByteArray→ByteArray→Option B0O) (c228:ByteArray→ByteArray→Option A2r):List FE:=[A7Y c192,D1T c226,D8c c227,D9Y c228]
section
variable (c192:Bool→ByteArray→Option i4) (c226:ByteArray→ByteArray→Option A2H) (c227:ByteArray→ByteArray→Option B0O) (c228:ByteArray→ByteArray→Option A2r)
noncomputable def C9r (x0:TI) (x1:TI):Option B2D:=B3 ((x0.1==x1.1)) ((c226 x0.2 x1.2).bind fun r1=>((c192 x0.1 r1).bind fun r2=>(some (r2.1,r2.2)))) ((c227 x0.2 x1.2).bind fun r3=>(if r3<0 then((c228 x1.2 x0.2).bind fun r4=>((c192 x1.1 r4).bind fun r5=>(some (r5.1,r5.2))))else((c228 x0.2 x1.2).bind fun r6=>((c192 x0.1 r6).bind fun r7=>(some (r7.1,r7.2))))))
theorem F0h (s:B8p.ask.T):B8p.ev E0 (D9a c192 c226 c227 c228) [] s=C9r c192 c226 c227 c228 s.1.1 s.1.2.1:=by kernel_rfl
end
noncomputable def D5i (c149:TI→Option A3Q) (c185:TI→TI→Option A6Y) (c186:ByteArray→ByteArray→Option A3a) (c191:TI→TI→Option B2D) (c192:Bool→ByteArray→Option i4):List FE:=[B5x c149,C5N c185,B8n c186,D7z c191,A7Y c192]
section
variable (c149:TI→Option A3Q) (c185:TI→TI→Option A6Y) (c186:ByteArray→ByteArray→Option A3a) (c191:TI→TI→Option B2D) (c192:Bool→ByteArray→Option i4)
noncomputable def B2H (x0:TQ) (x1:TQ):Option A3A:=B3 ((E4 x0.2 x1.2)) (B3 ((E4 x0.2 (⟨#[1]⟩:ByteArray))) ((c191 x0.1 x1.1).bind fun r1=>((c149 (r1.1,r1.2)).bind fun r2=>(some (r2.1,r2.2)))) ((c191 x0.1 x1.1).bind fun r3=>((c185 (r3.1,r3.2) (false,x0.2)).bind fun r4=>(some (r4.1,r4.2))))) ((c186 x0.1.2 x1.2).bind fun r5=>((c192 x0.1.1 r5).bind fun r6=>((c186 x1.1.2 x0.2).bind fun r7=>((c192 x1.1.1 r7).bind fun r8=>((c191 (r6.1,r6.2) (r8.1,r8.2)).bind fun r9=>((c186 x0.2 x1.2).bind fun r10=>((c185 (r9.1,r9.2) (false,r10)).bind fun r11=>(some (r11.1,r11.2)))))))))
theorem D9h (s:B7P.ask.T):B7P.ev E0 (D5i c149 c185 c186 c191 c192) [] s=B2H c149 c185 c186 c191 c192 s.1.1 s.1.2.1:=by kernel_rfl
end
noncomputable def D6B (c145:TQ→Option A6V) (c148:TQ→TQ→Option A3A):List FE:=[C7Q c145,B9h c148]
section
variable (c145:TQ→Option A6V) (c148:TQ→TQ→Option A3A)
noncomputable def B88 (x0:TQ) (x1:TQ):Option R88:=(c145 x1).bind fun r1=>((c148 x0 (r1.1,r1.2)).bind fun r2=>(some (r2.1,r2.2)))
theorem e88 (s:D88.ask.T):D88.ev E0 (D6B c145 c148) [] s=B88 c145 c148 s.1.1 s.1.2.1:=by kernel_rfl
end
noncomputable def C6V:Sk:=⟨[(0, .d (.li (.ag (.pr (.ag (.pr .bo .st)) .st)))),(3, .d (.it .i64))],[]⟩
noncomputable def C5L (gl0:(List TQ)→Int→Option R3):List (C7 R3):=[⟨2,C6V,fun s=>gl0 s.1.1 s.1.2.1⟩]
noncomputable def C6z (c152:TQ→Option A1F):List FE:=[B4g c152]
section
variable (gl0:(List TQ)→Int→Option R3) (c152:TQ→Option A1F)
noncomputable def A7U (x0:(List TQ)) (x3:Int):Option R3:=if x3>0 then(if 0≤wrap64 (x3-1)then(if wrap64 (x3-1)<(x0.length:Int)then((c152 (C4 ((false,(⟨#[]⟩:ByteArray)),(⟨#[]⟩:ByteArray)) x0 (wrap64 (x3-1)))).bind fun r1=>(B3 (r1) (gl0 x0 (wrap64 (x3-1))) (if(0:Int)≤0 then(if 0≤x3 then(if x3≤x3 then(if x3≤(x0.length:Int)then(some (slice_ x0 0 x3))else(none))else(none))else(none))else(none))))else(none))else(none))else(if(0:Int)≤0 then(if 0≤x3 then(if x3≤x3 then(if x3≤(x0.length:Int)then(some (slice_ x0 0 x3))else(none))else(none))else(none))else(none))
theorem E7F (s0:C5 D92.ask.bl) (s:C6V.T):D92.po E0 (C6z c152) (C5L gl0) s0 0 (C6V.mk' s)=A7U gl0 c152 s.1.1 s.1.2.1:=by kernel_rfl
noncomputable def B92 (x0:(List TQ)):Option R3:=gl0 x0 (x0.length:Int)
theorem e92 (s:D92.ask.T):D92.ev E0 (C6z c152) (C5L gl0) s=B92 gl0 s.1.1:=by kernel_rfl
end
noncomputable def B9v (x0:TQ):Option A2x:=some ((x0.1.1,x0.2),x0.1.2)
theorem F8H (s:B6X.ask.T):B6X.ev E0 [] [] s=B9v s.1.1:=by kernel_rfl
noncomputable def C6t (x0:(List TQ)):Option B7G:=some ([]:List TQ)
theorem E6G (s:B5t.ask.T):B5t.ev E0 [] [] s=C6t s.1.1:=by kernel_rfl
noncomputable def A6R (x0:(List TQ)):Option B6f:=if(([]:List TQ).length+x0.length)*40≤140737488355328 then(some (([]:List TQ)++x0))else(none)
theorem F0p (s:B9b.ask.T):B9b.ev E0 [] [] s=A6R s.1.1:=by kernel_rfl
noncomputable def C2w:Sk:=⟨[(0, .d (.li (.ag (.pr (.ag (.pr .bo .st)) .st)))),(1, .d (.li (.ag (.pr (.ag (.pr .bo .st)) .st)))),(6, .f (.a (.ref 6))),(7, .d (.it .i64)),(8, .f (.a (.ref 8))),(30, .d (.it .i64)),(31, .d (.it .i64))],[(6, .own (.ag (.pr (.ag (.pr .bo .st)) .st)) true),(8, .own (.ag (.pr (.ag (.pr .bo .st)) .st)) true)]⟩
noncomputable def C3Q:Sk:=⟨[(1, .d (.li (.ag (.pr (.ag (.pr .bo .st)) .st)))),(6, .f (.a (.ref 6))),(7, .d (.it .i64)),(8, .f (.a (.ref 8))),(10, .f (.a (.ptr 10 0 []))),(11, .d (.it .i64))],[(6, .own (.ag (.pr (.ag (.pr .bo .st)) .st)) true),(8, .own (.ag (.pr (.ag (.pr .bo .st)) .st)) true),(10, .cell (.ag (.pr (.ag (.pr .bo .st)) .st)) true)]⟩
noncomputable def C4f:Sk:=⟨[(1, .d (.li (.ag (.pr (.ag (.pr .bo .st)) .st)))),(6, .f (.a (.ref 6))),(7, .d (.it .i64)),(8, .f (.a (.ref 8))),(10, .f (.a (.ptr 10 0 []))),(11, .d (.it .i64)),(12, .f (.a (.ptr 12 0 []))),(69, .d (.it .i64)),(70, .d (.it .i64))],[(6, .own (.ag (.pr (.ag (.pr .bo .st)) .st)) true),(8, .own (.ag (.pr (.ag (.pr .bo .st)) .st)) true),(10, .cell (.ag (.pr (.ag (.pr .bo .st)) .st)) true),(12, .cell (.ag (.pr (.ag (.pr .bo .st)) .st)) true)]⟩
noncomputable def B4U (gl0:(List TQ)→(List TQ)→Int→Int→Int→(List TQ)→(List TQ)→Option Q9) (gl1:(List TQ)→Int→Int→(List TQ)→(List TQ)→TQ→Option Q9) (gl2:(List TQ)→Int→Int→Int→Int→(List TQ)→(List TQ)→TQ→TQ→Option Q9):List (C7 Q9):=[⟨7,C2w,fun s=>gl0 s.1.1 s.1.2.1 s.1.2.2.1 s.1.2.2.2.1 s.1.2.2.2.2.1 s.2.1 s.2.2.1⟩,⟨13,C3Q,fun s=>gl1 s.1.1 s.1.2.1 s.1.2.2.1 s.2.1 s.2.2.1 s.2.2.2.1⟩,⟨19,C4f,fun s=>gl2 s.1.1 s.1.2.1 s.1.2.2.1 s.1.2.2.2.1 s.1.2.2.2.2.1 s.2.1 s.2.2.1 s.2.2.2.1 s.2.2.2.2.1⟩]
noncomputable def B5j (c88:TQ→TQ→Option R88) (c89:Int→Option X8) (c92:(List TQ)→Option R3) (c142:TQ→TQ→Option v4) (c147:TQ→Option A2x) (c152:TQ→Option A1F) (c189:(List TQ)→Option B5c):List FE:=[B9s c88,A6O c89,A6q c92,B1x c142,B8e c147,B4g c152,D8S c189]
section
variable (gl0:(List TQ)→(List TQ)→Int→Int→Int→(List TQ)→(List TQ)→Option Q9) (gl1:(List TQ)→Int→Int→(List TQ)→(List TQ)→TQ→Option Q9) (gl2:(List TQ)→Int→Int→Int→Int→(List TQ)→(List TQ)→TQ→TQ→Option Q9) (c88:TQ→TQ→Option R88) (c89:Int→Option X8) (c92:(List TQ)→Option R3) (c142:TQ→TQ→Option v4) (c147:TQ→Option A2x) (c152:TQ→Option A1F) (c189:(List TQ)→Option B5c)
noncomputable def A8A (x0:(List TQ)) (x1:(List TQ)) (x7:Int) (x30:Int) (x31:Int) (x6:(List TQ)) (x8:(List TQ)):Option Q9:=if x31<x30 then((c89 0).bind fun r1=>(if 0≤x31 then(if x31<(x8.length:Int)then(gl0 x0 x1 x7 x30 (wrap64 (x31+1)) x6 (x8.set (x31:Int).toNat (r1.1,r1.2)))else(none))else(none)))else(if 0≤wrap64 (x7-1)then(if wrap64 (x7-1)<(x1.length:Int)then((c147 (C4 ((false,(⟨#[]⟩:ByteArray)),(⟨#[]⟩:ByteArray)) x1 (wrap64 (x7-1)))).bind fun r2=>(gl1 x1 x7 (wrap64 ((x0.length:Int)-x7)) x6 x8 (r2.1,r2.2)))else(none))else(none))
theorem E9N (s0:C5 A3p.ask.bl) (s:C2w.T):A3p.po E0 (B5j c88 c89 c92 c142 c147 c152 c189) (B4U gl0 gl1 gl2) s0 0 (C2w.mk' s)=A8A gl0 gl1 c89 c147 s.1.1 s.1.2.1 s.1.2.2.1 s.1.2.2.2.1 s.1.2.2.2.2.1 s.2.1 s.2.2.1:=by kernel_rfl
noncomputable def A7K (x1:(List TQ)) (x7:Int) (x11:Int) (x6:(List TQ)) (x8:(List TQ)) (x10:TQ):Option Q9:=if x11≥0 then(if 0≤wrap64 ((wrap64 (x11+x7))-1)then(if wrap64 ((wrap64 (x11+x7))-1)<(x6.length:Int)then((c142 (C4 ((false,(⟨#[]⟩:ByteArray)),(⟨#[]⟩:ByteArray)) x6 (wrap64 ((wrap64 (x11+x7))-1))) x10).bind fun r1=>(if 0≤x11 then(if x11<(x8.length:Int)then((c152 (r1.1,r1.2)).bind fun r2=>(B3 (r2) (gl1 x1 x7 (wrap64 (x11-1)) x6 (x8.set (x11:Int).toNat (r1.1,r1.2)) x10) (gl2 x1 x7 x11 (x1.length:Int) 0 x6 (x8.set (x11:Int).toNat (r1.1,r1.2)) x10 (r1.1,r1.2))))else(none))else(none)))else(none))else(none))else((c92 x8).bind fun r3=>(if(0:Int)≤0 then(if 0≤wrap64 (x7-1)then(if wrap64 (x7-1)≤(x6.length:Int)then(if(x6.length:Int)≤(x6.length:Int)then((c92 (slice_ x6 0 (wrap64 (x7-1)))).bind fun r4=>(some (r3,r4)))else(none))else(none))else(none))else(none)))
theorem E9o (s0:C5 A3p.ask.bl) (s:C3Q.T):A3p.po E0 (B5j c88 c89 c92 c142 c147 c152 c189) (B4U gl0 gl1 gl2) s0 1 (C3Q.mk' s)=A7K gl1 gl2 c92 c142 c152 s.1.1 s.1.2.1 s.1.2.2.1 s.2.1 s.2.2.1 s.2.2.2.1:=by kernel_rfl
noncomputable def A8F (x1:(List TQ)) (x7:Int) (x11:Int) (x69:Int) (x70:Int) (x6:(List TQ)) (x8:(List TQ)) (x10:TQ) (x12:TQ):Option Q9:=if x70<x69 then(if 0≤wrap64 (x11+x70)then(if wrap64 (x11+x70)<(x6.length:Int)then(if 0≤x70 then(if x70<(x1.length:Int)then((c142 x12 (C4 ((false,(⟨#[]⟩:ByteArray)),(⟨#[]⟩:ByteArray)) x1 x70)).bind fun r1=>((c88 (C4 ((false,(⟨#[]⟩:ByteArray)),(⟨#[]⟩:ByteArray)) x6 (wrap64 (x11+x70))) (r1.1,r1.2)).bind fun r2=>(if 0≤wrap64 (x11+x70)then(if wrap64 (x11+x70)<(x6.length:Int)then(gl2 x1 x7 x11 x69 (wrap64 (x70+1)) (x6.set (wrap64 (x11+x70):Int).toNat (r2.1,r2.2)) x8 x10 x12)else(none))else(none))))else(none))else(none))else(none))else(none))else(gl1 x1 x7 (wrap64 (x11-1)) x6 x8 x10)
theorem E0o (s0:C5 A3p.ask.bl) (s:C4f.T):A3p.po E0 (B5j c88 c89 c92 c142 c147 c152 c189) (B4U gl0 gl1 gl2) s0 2 (C4f.mk' s)=A8F gl1 gl2 c88 c142 s.1.1 s.1.2.1 s.1.2.2.1 s.1.2.2.2.1 s.1.2.2.2.2.1 s.2.1 s.2.2.1 s.2.2.2.1 s.2.2.2.2.1:=by kernel_rfl
noncomputable def B3T (x0:(List TQ)) (x1:(List TQ)):Option Q9:=(c189 x0).bind fun r1=>(if(x0.length:Int)<(x1.length:Int)then(some (([]:List TQ),r1))else(if 0≤wrap64 ((wrap64 ((x0.length:Int)-(x1.length:Int)))+1)then(if wrap64 ((wrap64 ((x0.length:Int)-(x1.length:Int)))+1)≤wrap64 ((wrap64 ((x0.length:Int)-(x1.length:Int)))+1)then(if(wrap64 ((wrap64 ((x0.length:Int)-(x1.length:Int)))+1):Int).toNat≤7036874417766 then(gl0 x0 x1 (x1.length:Int) ((List.replicate (wrap64 ((wrap64 ((x0.length:Int)-(x1.length:Int)))+1):Int).toNat ((false,(⟨#[]⟩:ByteArray)),(⟨#[]⟩:ByteArray))).length:Int) 0 r1 (List.replicate (wrap64 ((wrap64 ((x0.length:Int)-(x1.length:Int)))+1):Int).toNat ((false,(⟨#[]⟩:ByteArray)),(⟨#[]⟩:ByteArray))))else(none))else(none))else(none)))
theorem E4k (s:A3p.ask.T):A3p.ev E0 (B5j c88 c89 c92 c142 c147 c152 c189) (B4U gl0 gl1 gl2) s=B3T gl0 c189 s.1.1 s.1.2.1:=by kernel_rfl
end
noncomputable def D0l:Sk:=⟨[(0, .d (.li (.ag (.pr (.ag (.pr .bo .st)) .st)))),(1, .d (.li (.ag (.pr (.ag (.pr .bo .st)) .st)))),(4, .f (.a (.ptr 4 0 []))),(5, .f (.a (.ptr 5 0 [])))],[(4, .cell (.ag (.pr (.ag (.pr .bo .st)) .st)) true),(5, .cell (.ag (.pr (.ag (.pr .bo .st)) .st)) true)]⟩
noncomputable def C5n (gl0:(List TQ)→(List TQ)→TQ→TQ→Option R84):List (C7 R84):=[⟨2,D0l,fun s=>gl0 s.1.1 s.1.2.1 s.2.1 s.2.2.1⟩]
noncomputable def C7L (c89:Int→Option X8) (c142:TQ→TQ→Option v4) (c143:TQ→Int→Option B0u) (c144:(List TQ)→(List TQ)→Option Q9) (c145:TQ→Option A6V):List FE:=[A6O c89,B1x c142,D7U c143,B7B c144,C7Q c145]
section
variable (gl0:(List TQ)→(List TQ)→TQ→TQ→Option R84) (c89:Int→Option X8) (c142:TQ→TQ→Option v4) (c143:TQ→Int→Option B0u) (c144:(List TQ)→(List TQ)→Option Q9) (c145:TQ→Option A6V)
noncomputable def C1C (x0:(List TQ)) (x1:(List TQ)) (x4:TQ) (x5:TQ):Option R84:=if wrap64 ((x1.length:Int)-1)<0 then(if wrap64 ((x0.length:Int)-1)>0 then((c89 0).bind fun r1=>(some (r1.1,r1.2)))else(if wrap64 ((x1.length:Int)-1)<0 then(some (x5.1,x5.2))else(if wrap64 ((x1.length:Int)-1)=0 then(if(0:Int)≤0 then(if 0<(x1.length:Int)then((c143 (C4 ((false,(⟨#[]⟩:ByteArray)),(⟨#[]⟩:ByteArray)) x1 0) (wrap64 ((x0.length:Int)-1))).bind fun r2=>((c142 x5 (r2.1,r2.2)).bind fun r3=>(some (r3.1,r3.2))))else(none))else(none))else((c144 x0 x1).bind fun r4=>(if(r4.2.length:Int)=0 then((c89 0).bind fun r5=>(some (r5.1,r5.2)))else(if(2:Int)=0 then(none)else(if Int.tmod (wrap64 ((wrap64 ((x0.length:Int)-1))*(wrap64 ((x1.length:Int)-1)))) 2=1 then((c145 x5).bind fun r6=>(if 0≤wrap64 ((x1.length:Int)-1)then(if wrap64 ((x1.length:Int)-1)<(x1.length:Int)then((c143 (C4 ((false,(⟨#[]⟩:ByteArray)),(⟨#[]⟩:ByteArray)) x1 (wrap64 ((x1.length:Int)-1))) (wrap64 ((wrap64 ((wrap64 ((x0.length:Int)-1))-(r4.2.length:Int)))+1))).bind fun r7=>((c142 (r6.1,r6.2) (r7.1,r7.2)).bind fun r8=>(gl0 x1 r4.2 x4 (r8.1,r8.2))))else(none))else(none)))else(if 0≤wrap64 ((x1.length:Int)-1)then(if wrap64 ((x1.length:Int)-1)<(x1.length:Int)then((c143 (C4 ((false,(⟨#[]⟩:ByteArray)),(⟨#[]⟩:ByteArray)) x1 (wrap64 ((x1.length:Int)-1))) (wrap64 ((wrap64 ((wrap64 ((x0.length:Int)-1))-(r4.2.length:Int)))+1))).bind fun r9=>((c142 x5 (r9.1,r9.2)).bind fun r10=>(gl0 x1 r4.2 x4 (r10.1,r10.2))))else(none))else(none)))))))))else(if wrap64 ((x1.length:Int)-1)<0 then(some (x5.1,x5.2))else(if wrap64 ((x1.length:Int)-1)=0 then(if(0:Int)≤0 then(if 0<(x1.length:Int)then((c143 (C4 ((false,(⟨#[]⟩:ByteArray)),(⟨#[]⟩:ByteArray)) x1 0) (wrap64 ((x0.length:Int)-1))).bind fun r11=>((c142 x5 (r11.1,r11.2)).bind fun r12=>(some (r12.1,r12.2))))else(none))else(none))else((c144 x0 x1).bind fun r13=>(if(r13.2.length:Int)=0 then((c89 0).bind fun r14=>(some (r14.1,r14.2)))else(if(2:Int)=0 then(none)else(if Int.tmod (wrap64 ((wrap64 ((x0.length:Int)-1))*(wrap64 ((x1.length:Int)-1)))) 2=1 then((c145 x5).bind fun r15=>(if 0≤wrap64 ((x1.length:Int)-1)then(if wrap64 ((x1.length:Int)-1)<(x1.length:Int)then((c143 (C4 ((false,(⟨#[]⟩:ByteArray)),(⟨#[]⟩:ByteArray)) x1 (wrap64 ((x1.length:Int)-1))) (wrap64 ((wrap64 ((wrap64 ((x0.length:Int)-1))-(r13.2.length:Int)))+1))).bind fun r16=>((c142 (r15.1,r15.2) (r16.1,r16.2)).bind fun r17=>(gl0 x1 r13.2 x4 (r17.1,r17.2))))else(none))else(none)))else(if 0≤wrap64 ((x1.length:Int)-1)then(if wrap64 ((x1.length:Int)-1)<(x1.length:Int)then((c143 (C4 ((false,(⟨#[]⟩:ByteArray)),(⟨#[]⟩:ByteArray)) x1 (wrap64 ((x1.length:Int)-1))) (wrap64 ((wrap64 ((wrap64 ((x0.length:Int)-1))-(r13.2.length:Int)))+1))).bind fun r18=>((c142 x5 (r18.1,r18.2)).bind fun r19=>(gl0 x1 r13.2 x4 (r19.1,r19.2))))else(none))else(none))))))))
theorem E1b (s0:C5 D84.ask.bl) (s:D0l.T):D84.po E0 (C7L c89 c142 c143 c144 c145) (C5n gl0) s0 0 (D0l.mk' s)=C1C gl0 c89 c142 c143 c144 c145 s.1.1 s.1.2.1 s.2.1 s.2.2.1:=by kernel_rfl
noncomputable def B84 (x0:(List TQ)) (x1:(List TQ)):Option R84:=(c89 1).bind fun r1=>(gl0 x0 x1 ((false,(⟨#[]⟩:ByteArray)),(⟨#[]⟩:ByteArray)) (r1.1,r1.2))
theorem e84 (s:D84.ask.T):D84.ev E0 (C7L c89 c142 c143 c144 c145) (C5n gl0) s=B84 gl0 c89 s.1.1 s.1.2.1:=by kernel_rfl
end
noncomputable def D6M (c89:Int→Option X8):List FE:=[A6O c89]
section
variable (c89:Int→Option X8)
noncomputable def B3t (x0:(List TQ)) (x1:Int):Option A5r:=if x1<0 then((c89 0).bind fun r1=>(some (r1.1,r1.2)))else(if x1≥(x0.length:Int)then((c89 0).bind fun r2=>(some (r2.1,r2.2)))else(if 0≤x1 then(if x1<(x0.length:Int)then(some ((C4 ((false,(⟨#[]⟩:ByteArray)),(⟨#[]⟩:ByteArray)) x0 x1).1,(C4 ((false,(⟨#[]⟩:ByteArray)),(⟨#[]⟩:ByteArray)) x0 x1).2))else(none))else(none)))
theorem F3V (s:B6T.ask.T):B6T.ev E0 (D6M c89) [] s=B3t c89 s.1.1 s.1.2.1:=by kernel_rfl
end
noncomputable def C7q:Sk:=⟨[(0, .d (.li (.ag (.pr (.ag (.pr .bo .st)) .st)))),(1, .d (.li (.ag (.pr (.ag (.pr .bo .st)) .st)))),(5, .f (.a (.ref 5))),(14, .d (.it .i64)),(15, .d (.it .i64))],[(5, .own (.ag (.pr (.ag (.pr .bo .st)) .st)) true)]⟩
noncomputable def C2b (gl0:(List TQ)→(List TQ)→Int→Int→(List TQ)→Option g7):List (C7 g7):=[⟨3,C7q,fun s=>gl0 s.1.1 s.1.2.1 s.1.2.2.1 s.1.2.2.2.1 s.2.1⟩]
noncomputable def C9V (c92:(List TQ)→Option R3) (c148:TQ→TQ→Option A3A) (c151:(List TQ)→Int→Option A5r):List FE:=[A6q c92,B9h c148,C1o c151]
section
variable (gl0:(List TQ)→(List TQ)→Int→Int→(List TQ)→Option g7) (c92:(List TQ)→Option R3) (c148:TQ→TQ→Option A3A) (c151:(List TQ)→Int→Option A5r)
noncomputable def A9I (x0:(List TQ)) (x1:(List TQ)) (x14:Int) (x15:Int) (x5:(List TQ)):Option g7:=if x15<x14 then((c151 x0 x15).bind fun r1=>((c151 x1 x15).bind fun r2=>((c148 (r1.1,r1.2) (r2.1,r2.2)).bind fun r3=>(if 0≤x15 then(if x15<(x5.length:Int)then(gl0 x0 x1 x14 (wrap64 (x15+1)) (x5.set (x15:Int).toNat (r3.1,r3.2)))else(none))else(none)))))else((c92 x5).bind fun r4=>(some r4))
theorem E9I (s0:C5 D90.ask.bl) (s:C7q.T):D90.po E0 (C9V c92 c148 c151) (C2b gl0) s0 0 (C7q.mk' s)=A9I gl0 c92 c148 c151 s.1.1 s.1.2.1 s.1.2.2.1 s.1.2.2.2.1 s.2.1:=by kernel_rfl
noncomputable def B90 (x0:(List TQ)) (x1:(List TQ)):Option g7:=if 0≤mx (x0.length:Int) (x1.length:Int)then(if mx (x0.length:Int) (x1.length:Int)≤mx (x0.length:Int) (x1.length:Int)then(if(mx (x0.length:Int) (x1.length:Int):Int).toNat≤7036874417766 then(gl0 x0 x1 ((List.replicate (mx (x0.length:Int) (x1.length:Int):Int).toNat ((false,(⟨#[]⟩:ByteArray)),(⟨#[]⟩:ByteArray))).length:Int) 0 (List.replicate (mx (x0.length:Int) (x1.length:Int):Int).toNat ((false,(⟨#[]⟩:ByteArray)),(⟨#[]⟩:ByteArray))))else(none))else(none))else(none)
theorem e90 (s:D90.ask.T):D90.ev E0 (C9V c92 c148 c151) (C2b gl0) s=B90 gl0 s.1.1 s.1.2.1:=by kernel_rfl
end
noncomputable def C2J:Sk:=⟨[(0, .d (.li (.ag (.pr (.ag (.pr .bo .st)) .st)))),(1, .d (.li (.ag (.pr (.ag (.pr .bo .st)) .st)))),(5, .f (.a (.ref 5))),(27, .d (.it .i64)),(28, .d (.it .i64))],[(5, .own (.ag (.pr (.ag (.pr .bo .st)) .st)) true)]⟩
noncomputable def D0X:Sk:=⟨[(1, .d (.li (.ag (.pr (.ag (.pr .bo .st)) .st)))),(5, .f (.a (.ref 5))),(36, .d (.li (.ag (.pr (.ag (.pr .bo .st)) .st)))),(37, .d (.it .i64)),(38, .d (.it .i64))],[(5, .own (.ag (.pr (.ag (.pr .bo .st)) .st)) true)]⟩
noncomputable def C1F:Sk:=⟨[(1, .d (.li (.ag (.pr (.ag (.pr .bo .st)) .st)))),(5, .f (.a (.ref 5))),(7, .d (.it .i64)),(8, .f (.a (.ptr 8 0 []))),(36, .d (.li (.ag (.pr (.ag (.pr .bo .st)) .st)))),(37, .d (.it .i64)),(38, .d (.it .i64)),(45, .d (.li (.ag (.pr (.ag (.pr .bo .st)) .st)))),(46, .d (.it .i64)),(47, .d (.it .i64))],[(5, .own (.ag (.pr (.ag (.pr .bo .st)) .st)) true),(8, .cell (.ag (.pr (.ag (.pr .bo .st)) .st)) true)]⟩
noncomputable def B3o (gl0:(List TQ)→(List TQ)→Int→Int→(List TQ)→Option O9) (gl1:(List TQ)→(List TQ)→Int→Int→(List TQ)→Option O9) (gl2:(List TQ)→Int→(List TQ)→Int→Int→(List TQ)→Int→Int→(List TQ)→TQ→Option O9):List (C7 O9):=[⟨5,C2J,fun s=>gl0 s.1.1 s.1.2.1 s.1.2.2.1 s.1.2.2.2.1 s.2.1⟩,⟨10,D0X,fun s=>gl1 s.1.1 s.1.2.1 s.1.2.2.1 s.1.2.2.2.1 s.2.1⟩,⟨14,C1F,fun s=>gl2 s.1.1 s.1.2.1 s.1.2.2.1 s.1.2.2.2.1 s.1.2.2.2.2.1 s.1.2.2.2.2.2.1 s.1.2.2.2.2.2.2.1 s.1.2.2.2.2.2.2.2.1 s.2.1 s.2.2.1⟩]
noncomputable def B2v (c89:Int→Option X8) (c92:(List TQ)→Option R3) (c142:TQ→TQ→Option v4) (c148:TQ→TQ→Option A3A) (c152:TQ→Option A1F):List FE:=[A6O c89,A6q c92,B1x c142,B9h c148,B4g c152]
section
variable (gl0:(List TQ)→(List TQ)→Int→Int→(List TQ)→Option O9) (gl1:(List TQ)→(List TQ)→Int→Int→(List TQ)→Option O9) (gl2:(List TQ)→Int→(List TQ)→Int→Int→(List TQ)→Int→Int→(List TQ)→TQ→Option O9) (c89:Int→Option X8) (c92:(List TQ)→Option R3) (c142:TQ→TQ→Option v4) (c148:TQ→TQ→Option A3A) (c152:TQ→Option A1F)
noncomputable def A7s (x0:(List TQ)) (x1:(List TQ)) (x27:Int) (x28:Int) (x5:(List TQ)):Option O9:=if x28<x27 then((c89 0).bind fun r1=>(if 0≤x28 then(if x28<(x5.length:Int)then(gl0 x0 x1 x27 (wrap64 (x28+1)) (x5.set (x28:Int).toNat (r1.1,r1.2)))else(none))else(none)))else(gl1 x1 x0 (x0.length:Int) 0 x5)
theorem F7E (s0:C5 D91.ask.bl) (s:C2J.T):D91.po E0 (B2v c89 c92 c142 c148 c152) (B3o gl0 gl1 gl2) s0 0 (C2J.mk' s)=A7s gl0 gl1 c89 s.1.1 s.1.2.1 s.1.2.2.1 s.1.2.2.2.1 s.2.1:=by kernel_rfl
noncomputable def A7d (x1:(List TQ)) (x36:(List TQ)) (x37:Int) (x38:Int) (x5:(List TQ)):Option O9:=if x38<x37 then(if 0≤x38 then(if x38<(x36.length:Int)then((c152 (C4 ((false,(⟨#[]⟩:ByteArray)),(⟨#[]⟩:ByteArray)) x36 x38)).bind fun r1=>(B3 (r1) (gl1 x1 x36 x37 (wrap64 (x38+1)) x5) (gl2 x1 x38 x36 x37 x38 x1 (x1.length:Int) 0 x5 (C4 ((false,(⟨#[]⟩:ByteArray)),(⟨#[]⟩:ByteArray)) x36 x38))))else(none))else(none))else((c92 x5).bind fun r2=>(some r2))
theorem E3Y (s0:C5 D91.ask.bl) (s:D0X.T):D91.po E0 (B2v c89 c92 c142 c148 c152) (B3o gl0 gl1 gl2) s0 1 (D0X.mk' s)=A7d gl1 gl2 c92 c152 s.1.1 s.1.2.1 s.1.2.2.1 s.1.2.2.2.1 s.2.1:=by kernel_rfl
noncomputable def A9G (x1:(List TQ)) (x7:Int) (x36:(List TQ)) (x37:Int) (x38:Int) (x45:(List TQ)) (x46:Int) (x47:Int) (x5:(List TQ)) (x8:TQ):Option O9:=if x47<x46 then(if 0≤x47 then(if x47<(x45.length:Int)then(if 0≤wrap64 (x7+x47)then(if wrap64 (x7+x47)<(x5.length:Int)then((c142 x8 (C4 ((false,(⟨#[]⟩:ByteArray)),(⟨#[]⟩:ByteArray)) x45 x47)).bind fun r1=>((c148 (C4 ((false,(⟨#[]⟩:ByteArray)),(⟨#[]⟩:ByteArray)) x5 (wrap64 (x7+x47))) (r1.1,r1.2)).bind fun r2=>(if 0≤wrap64 (x7+x47)then(if wrap64 (x7+x47)<(x5.length:Int)then(gl2 x1 x7 x36 x37 x38 x45 x46 (wrap64 (x47+1)) (x5.set (wrap64 (x7+x47):Int).toNat (r2.1,r2.2)) x8)else(none))else(none))))else(none))else(none))else(none))else(none))else(gl1 x1 x36 x37 (wrap64 (x38+1)) x5)
theorem F7x (s0:C5 D91.ask.bl) (s:C1F.T):D91.po E0 (B2v c89 c92 c142 c148 c152) (B3o gl0 gl1 gl2) s0 2 (C1F.mk' s)=A9G gl1 gl2 c142 c148 s.1.1 s.1.2.1 s.1.2.2.1 s.1.2.2.2.1 s.1.2.2.2.2.1 s.1.2.2.2.2.2.1 s.1.2.2.2.2.2.2.1 s.1.2.2.2.2.2.2.2.1 s.2.1 s.2.2.1:=by kernel_rfl
noncomputable def B91 (x0:(List TQ)) (x1:(List TQ)):Option O9:=if(x0.length:Int)=0 then(some ([]:List TQ))else(if(x1.length:Int)=0 then(some ([]:List TQ))else(if 0≤wrap64 ((wrap64 ((x0.length:Int)+(x1.length:Int)))-1)then(if wrap64 ((wrap64 ((x0.length:Int)+(x1.length:Int)))-1)≤wrap64 ((wrap64 ((x0.length:Int)+(x1.length:Int)))-1)then(if(wrap64 ((wrap64 ((x0.length:Int)+(x1.length:Int)))-1):Int).toNat≤7036874417766 then(gl0 x0 x1 ((List.replicate (wrap64 ((wrap64 ((x0.length:Int)+(x1.length:Int)))-1):Int).toNat ((false,(⟨#[]⟩:ByteArray)),(⟨#[]⟩:ByteArray))).length:Int) 0 (List.replicate (wrap64 ((wrap64 ((x0.length:Int)+(x1.length:Int)))-1):Int).toNat ((false,(⟨#[]⟩:ByteArray)),(⟨#[]⟩:ByteArray))))else(none))else(none))else(none)))
theorem e91 (s:D91.ask.T):D91.ev E0 (B2v c89 c92 c142 c148 c152) (B3o gl0 gl1 gl2) s=B91 gl0 s.1.1 s.1.2.1:=by kernel_rfl
end
noncomputable def D3T (c144:(List TQ)→(List TQ)→Option Q9):List FE:=[B7B c144]
section
variable (c144:(List TQ)→(List TQ)→Option Q9)
noncomputable def B3A (x0:(List TQ)) (x1:(List TQ)):Option A3z:=(c144 x1 x0).bind fun r1=>(some r1.2)
theorem E4M (s:B8d.ask.T):B8d.ev E0 (D3T c144) [] s=B3A c144 s.1.1 s.1.2.1:=by kernel_rfl
end
noncomputable def D2Q (c91:(List TQ)→(List TQ)→Option O9) (c165:(List TQ)→(List TQ)→Option A3z):List FE:=[B2u c91,B7K c165]
section
variable (c91:(List TQ)→(List TQ)→Option O9) (c165:(List TQ)→(List TQ)→Option A3z)
noncomputable def C7D (x0:(List TQ)) (x1:(List TQ)) (x2:(List TQ)):Option A3j:=(c91 x1 x2).bind fun r1=>((c165 x0 r1).bind fun r2=>(some r2))
theorem E0L (s:B6r.ask.T):B6r.ev E0 (D2Q c91 c165) [] s=C7D c91 c165 s.1.1 s.1.2.1 s.1.2.2.1:=by kernel_rfl
end
noncomputable def C2T:Sk:=⟨[(1, .d (.li (.li (.ag (.pr (.ag (.pr .bo .st)) .st))))),(2, .d (.li (.ag (.pr (.ag (.pr .bo .st)) .st)))),(3, .f (.a (.ptr 3 0 []))),(7, .d (.li (.ag (.pr (.ag (.pr .bo .st)) .st)))),(8, .d (.it .i64))],[(3, .cell (.ag (.li (.ag (.pr (.ag (.pr .bo .st)) .st)))) true)]⟩
noncomputable def C4w (gl0:(List (List TQ))→(List TQ)→(List TQ)→Int→(List TQ)→Option R85):List (C7 R85):=[⟨3,C2T,fun s=>gl0 s.1.1 s.1.2.1 s.1.2.2.1 s.1.2.2.2.1 s.2.1⟩]
noncomputable def C6S (c90:(List TQ)→(List TQ)→Option g7) (c146:(List TQ)→(List TQ)→(List TQ)→Option A3j):List FE:=[B5G c90,C0e c146]
section
variable (gl0:(List (List TQ))→(List TQ)→(List TQ)→Int→(List TQ)→Option R85) (c90:(List TQ)→(List TQ)→Option g7) (c146:(List TQ)→(List TQ)→(List TQ)→Option A3j)
noncomputable def C2G (x1:(List (List TQ))) (x2:(List TQ)) (x7:(List TQ)) (x8:Int) (x3:(List TQ)):Option R85:=if x8≥0 then((c146 x3 x7 x2).bind fun r1=>(if 0≤x8 then(if x8<(x1.length:Int)then((c90 r1 (C4 ([]:List TQ) x1 x8)).bind fun r2=>(gl0 x1 x2 r2 (wrap64 (x8-1)) x3))else(none))else(none)))else(some x7)
theorem E9c (s0:C5 D85.ask.bl) (s:C2T.T):D85.po E0 (C6S c90 c146) (C4w gl0) s0 0 (C2T.mk' s)=C2G gl0 c90 c146 s.1.1 s.1.2.1 s.1.2.2.1 s.1.2.2.2.1 s.2.1:=by kernel_rfl
noncomputable def B85 (x0:(List TQ)) (x1:(List (List TQ))) (x2:(List TQ)):Option R85:=gl0 x1 x2 ([]:List TQ) (wrap64 ((x1.length:Int)-1)) x0
theorem e85 (s:D85.ask.T):D85.ev E0 (C6S c90 c146) (C4w gl0) s=B85 gl0 s.1.1 s.1.2.1 s.1.2.2.1:=by kernel_rfl
end
noncomputable def C4W:Sk:=⟨[(3, .f (.a (.ref 3))),(9, .d (.li (.it .i64))),(10, .d (.it .i64)),(11, .d (.it .i64))],[(3, .own (.ag (.pr (.ag (.pr .bo .st)) .st)) true)]⟩
noncomputable def C6F (gl0:(List Int)→Int→Int→(List TQ)→Option c8):List (C7 c8):=[⟨3,C4W,fun s=>gl0 s.1.1 s.1.2.1 s.1.2.2.1 s.2.1⟩]
noncomputable def C3K (c89:Int→Option X8) (c92:(List TQ)→Option R3):List FE:=[A6O c89,A6q c92]
section
variable (gl0:(List Int)→Int→Int→(List TQ)→Option c8) (c89:Int→Option X8) (c92:(List TQ)→Option R3)
noncomputable def D0A (x9:(List Int)) (x10:Int) (x11:Int) (x3:(List TQ)):Option c8:=if x11<x10 then(if 0≤x11 then(if x11<(x9.length:Int)then((c89 (rd x9 x11)).bind fun r1=>(if 0≤x11 then(if x11<(x3.length:Int)then(gl0 x9 x10 (wrap64 (x11+1)) (x3.set (x11:Int).toNat (r1.1,r1.2)))else(none))else(none)))else(none))else(none))else((c92 x3).bind fun r2=>(some r2))
theorem E0D (s0:C5 D86.ask.bl) (s:C4W.T):D86.po E0 (C3K c89 c92) (C6F gl0) s0 0 (C4W.mk' s)=D0A gl0 c89 c92 s.1.1 s.1.2.1 s.1.2.2.1 s.2.1:=by kernel_rfl
noncomputable def B86 (x0:(List Int)):Option c8:=if 0≤(x0.length:Int)then(if(x0.length:Int)≤(x0.length:Int)then(if((x0.length:Int):Int).toNat≤7036874417766 then(gl0 x0 (x0.length:Int) 0 (List.replicate ((x0.length:Int):Int).toNat ((false,(⟨#[]⟩:ByteArray)),(⟨#[]⟩:ByteArray))))else(none))else(none))else(none)
theorem e86 (s:D86.ask.T):D86.ev E0 (C3K c89 c92) (C6F gl0) s=B86 gl0 s.1.1:=by kernel_rfl
end
noncomputable def D2J (c142:TQ→TQ→Option v4) (c147:TQ→Option A2x):List FE:=[B1x c142,B8e c147]
section
variable (c142:TQ→TQ→Option v4) (c147:TQ→Option A2x)
noncomputable def B87 (x0:TQ) (x1:TQ):Option R87:=(c147 x1).bind fun r1=>((c142 x0 (r1.1,r1.2)).bind fun r2=>(some (r2.1,r2.2)))
theorem e87 (s:D87.ask.T):D87.ev E0 (D2J c142 c147) [] s=B87 c142 c147 s.1.1 s.1.2.1:=by kernel_rfl
end
noncomputable def B5e (x0:TQ):Option B1R:=if(x0.1.2.size:Int)>1024 then(some true)else(some (decide ((x0.2.size:Int)>1024)))
theorem E3i (s:B8x.ask.T):B8x.ev E0 [] [] s=B5e s.1.1:=by kernel_rfl
noncomputable def C3Y:Sk:=⟨[(0, .d (.li (.ag (.pr (.ag (.pr .bo .st)) .st)))),(1, .f (.cl 154 [])),(7, .d (.it .i64)),(8, .d (.it .i64))],[]⟩
noncomputable def C2Z (gl0:(List TQ)→Int→Int→Option A2e):List (C7 A2e):=[⟨2,C3Y,fun s=>gl0 s.1.1 s.1.2.1 s.1.2.2.1⟩]
noncomputable def D0o (c154:TQ→Option B1R):List FE:=[D5j c154]
section
variable (gl0:(List TQ)→Int→Int→Option A2e) (c154:TQ→Option B1R)
noncomputable def A9W (x0:(List TQ)) (x7:Int) (x8:Int):Option A2e:=if x8<x7 then(if 0≤x8 then(if x8<(x0.length:Int)then((c154 (C4 ((false,(⟨#[]⟩:ByteArray)),(⟨#[]⟩:ByteArray)) x0 x8)).bind fun r1=>(B3 (r1) (some x8) (gl0 x0 x7 (wrap64 (x8+1)))))else(none))else(none))else(some (-1))
theorem F0g (s0:C5 B2T.ask.bl) (s:C3Y.T):B2T.po E0 (D0o c154) (C2Z gl0) s0 0 (C3Y.mk' s)=A9W gl0 c154 s.1.1 s.1.2.1 s.1.2.2.1:=by kernel_rfl
noncomputable def B5a (x0:(List TQ)):Option A2e:=gl0 x0 (x0.length:Int) 0
theorem E3u (s:B2T.ask.T):B2T.ev E0 (D0o c154) (C2Z gl0) s=B5a gl0 s.1.1:=by kernel_rfl
end
noncomputable def D1h (c194Large:(List TQ)→Option A2e):List FE:=[D5w c194Large]
section
variable (c194Large:(List TQ)→Option A2e)
noncomputable def C4g (x0:(List TQ)):Option A6l:=(c194Large x0).bind fun r1=>(some (decide (r1≥0)))
theorem E9j (s:B7k.ask.T):B7k.ev E0 (D1h c194Large) [] s=C4g c194Large s.1.1:=by kernel_rfl
end
noncomputable def D5H (c153Large:(List TQ)→Option A6l):List FE:=[D0v c153Large]
section
variable (c153Large:(List TQ)→Option A6l)
noncomputable def B93 (x0:(List TQ)):Option R93:=if(x0.length:Int)>65 then(some true)else((c153Large x0).bind fun r1=>(some r1))
theorem e93 (s:D93.ask.T):D93.ev E0 (D5H c153Large) [] s=B93 c153Large s.1.1:=by kernel_rfl
end
noncomputable def C7O:Sk:=⟨[(1, .d (.li (.li (.ag (.pr (.ag (.pr .bo .st)) .st))))),(2, .f (.a (.ptr 2 0 []))),(7, .d (.it .i64)),(8, .f (.a (.ref 8))),(38, .d (.it .i64)),(39, .d (.it .i64))],[(2, .cell (.ag (.li (.ag (.pr (.ag (.pr .bo .st)) .st)))) true),(8, .own (.ag (.pr (.ag (.pr .bo .st)) .st)) true)]⟩
noncomputable def C1l:Sk:=⟨[(7, .d (.it .i64)),(8, .f (.a (.ref 8))),(10, .d (.it .i64))],[(8, .own (.ag (.pr (.ag (.pr .bo .st)) .st)) true)]⟩
noncomputable def C8C:Sk:=⟨[(7, .d (.it .i64)),(8, .f (.a (.ref 8))),(10, .d (.it .i64)),(11, .d (.it .i64))],[(8, .own (.ag (.pr (.ag (.pr .bo .st)) .st)) true)]⟩
noncomputable def C9f:Sk:=⟨[(8, .f (.a (.ref 8))),(12, .d (.li (.ag (.pr (.ag (.pr .bo .st)) .st)))),(13, .d (.it .i64))],[(8, .own (.ag (.pr (.ag (.pr .bo .st)) .st)) true)]⟩
noncomputable def B0T (gl0:(List (List TQ))→Int→Int→Int→(List TQ)→(List TQ)→Option Q6) (gl1:Int→Int→(List TQ)→Option Q6) (gl2:Int→Int→Int→(List TQ)→Option Q6) (gl3:(List TQ)→Int→(List TQ)→Option Q6):List (C7 Q6):=[⟨11,C7O,fun s=>gl0 s.1.1 s.1.2.1 s.1.2.2.1 s.1.2.2.2.1 s.2.1 s.2.2.1⟩,⟨16,C1l,fun s=>gl1 s.1.1 s.1.2.1 s.2.1⟩,⟨19,C8C,fun s=>gl2 s.1.1 s.1.2.1 s.1.2.2.1 s.2.1⟩,⟨24,C9f,fun s=>gl3 s.1.1 s.1.2.1 s.2.1⟩]
noncomputable def A9j (c83:(List TQ)→(List (List (List TQ)))→Option Q4) (c84:(List TQ)→(List TQ)→Option R84) (c85:(List TQ)→(List (List TQ))→(List TQ)→Option R85) (c86:(List Int)→Option c8) (c87:TQ→TQ→Option R87) (c88:TQ→TQ→Option R88) (c89:Int→Option X8) (c90:(List TQ)→(List TQ)→Option g7) (c91:(List TQ)→(List TQ)→Option O9) (c92:(List TQ)→Option R3) (c93:(List TQ)→Option R93):List FE:=[A5j c83,D5N c84,D3I c85,B5C c86,D5Z c87,B9s c88,A6O c89,B5G c90,B2u c91,A6q c92,D2Y c93]
section
variable (gl0:(List (List TQ))→Int→Int→Int→(List TQ)→(List TQ)→Option Q6) (gl1:Int→Int→(List TQ)→Option Q6) (gl2:Int→Int→Int→(List TQ)→Option Q6) (gl3:(List TQ)→Int→(List TQ)→Option Q6) (c83:(List TQ)→(List (List (List TQ)))→Option Q4) (c84:(List TQ)→(List TQ)→Option R84) (c85:(List TQ)→(List (List TQ))→(List TQ)→Option R85) (c86:(List Int)→Option c8) (c87:TQ→TQ→Option R87) (c88:TQ→TQ→Option R88) (c89:Int→Option X8) (c90:(List TQ)→(List TQ)→Option g7) (c91:(List TQ)→(List TQ)→Option O9) (c92:(List TQ)→Option R3) (c93:(List TQ)→Option R93)
noncomputable def C5v (x1:(List (List TQ))) (x7:Int) (x38:Int) (x39:Int) (x2:(List TQ)) (x8:(List TQ)):Option Q6:=if x39<x38 then((c86 ([x39]:List Int)).bind fun r1=>((c85 x2 x1 r1).bind fun r2=>((c84 x2 r2).bind fun r3=>(if 0≤x39 then(if x39<(x8.length:Int)then(gl0 x1 x7 x38 (wrap64 (x39+1)) x2 (x8.set (x39:Int).toNat (r3.1,r3.2)))else(none))else(none)))))else(gl1 x7 1 x8)
theorem E2H (s0:C5 D17.ask.bl) (s:C7O.T):D17.po E0 (A9j c83 c84 c85 c86 c87 c88 c89 c90 c91 c92 c93) (B0T gl0 gl1 gl2 gl3) s0 0 (C7O.mk' s)=C5v gl0 gl1 c84 c85 c86 s.1.1 s.1.2.1 s.1.2.2.1 s.1.2.2.2.1 s.2.1 s.2.2.1:=by kernel_rfl
noncomputable def C6l (x7:Int) (x10:Int) (x8:(List TQ)):Option Q6:=if x10≤x7 then(gl2 x7 x10 x7 x8)else(gl3 ([]:List TQ) x7 x8)
theorem E9J (s0:C5 D17.ask.bl) (s:C1l.T):D17.po E0 (A9j c83 c84 c85 c86 c87 c88 c89 c90 c91 c92 c93) (B0T gl0 gl1 gl2 gl3) s0 1 (C1l.mk' s)=C6l gl2 gl3 s.1.1 s.1.2.1 s.2.1:=by kernel_rfl
noncomputable def C4U (x7:Int) (x10:Int) (x11:Int) (x8:(List TQ)):Option Q6:=if x11≥x10 then(if 0≤x11 then(if x11<(x8.length:Int)then(if 0≤wrap64 (x11-1)then(if wrap64 (x11-1)<(x8.length:Int)then((c88 (C4 ((false,(⟨#[]⟩:ByteArray)),(⟨#[]⟩:ByteArray)) x8 x11) (C4 ((false,(⟨#[]⟩:ByteArray)),(⟨#[]⟩:ByteArray)) x8 (wrap64 (x11-1)))).bind fun r1=>((c89 x10).bind fun r2=>((c87 (r1.1,r1.2) (r2.1,r2.2)).bind fun r3=>(if 0≤x11 then(if x11<(x8.length:Int)then(gl2 x7 x10 (wrap64 (x11-1)) (x8.set (x11:Int).toNat (r3.1,r3.2)))else(none))else(none)))))else(none))else(none))else(none))else(none))else(gl1 x7 (wrap64 (x10+1)) x8)
theorem E0e (s0:C5 D17.ask.bl) (s:C8C.T):D17.po E0 (A9j c83 c84 c85 c86 c87 c88 c89 c90 c91 c92 c93) (B0T gl0 gl1 gl2 gl3) s0 2 (C8C.mk' s)=C4U gl1 gl2 c87 c88 c89 s.1.1 s.1.2.1 s.1.2.2.1 s.2.1:=by kernel_rfl
noncomputable def C8B (x12:(List TQ)) (x13:Int) (x8:(List TQ)):Option Q6:=if x13≥0 then((c86 ([wrap64 (0-x13),1]:List Int)).bind fun r1=>((c91 x12 r1).bind fun r2=>(if 0≤x13 then(if x13<(x8.length:Int)then((c92 ([C4 ((false,(⟨#[]⟩:ByteArray)),(⟨#[]⟩:ByteArray)) x8 x13]:List TQ)).bind fun r3=>((c90 r2 r3).bind fun r4=>(gl3 r4 (wrap64 (x13-1)) x8)))else(none))else(none))))else((c93 x12).bind fun r5=>(B3 (r5) (some (([]:List TQ),4)) (some (x12,0))))
theorem F6C (s0:C5 D17.ask.bl) (s:C9f.T):D17.po E0 (A9j c83 c84 c85 c86 c87 c88 c89 c90 c91 c92 c93) (B0T gl0 gl1 gl2 gl3) s0 3 (C9f.mk' s)=C8B gl3 c86 c90 c91 c92 c93 s.1.1 s.1.2.1 s.2.1:=by kernel_rfl
noncomputable def B17 (x0:(List TQ)) (x1:(List (List TQ))):Option Q6:=(c83 x0 ([x1]:List (List (List TQ)))).bind fun r1=>(if r1≠0 then(some (([]:List TQ),r1))else(if(x1.length:Int)=0 then(some (([]:List TQ),0))else(if wrap64 ((wrap64 ((x0.length:Int)-1))*(wrap64 ((x1.length:Int)-1)))>64 then(some (([]:List TQ),4))else(if 0≤wrap64 ((wrap64 ((wrap64 ((x0.length:Int)-1))*(wrap64 ((x1.length:Int)-1))))+1)then(if wrap64 ((wrap64 ((wrap64 ((x0.length:Int)-1))*(wrap64 ((x1.length:Int)-1))))+1)≤wrap64 ((wrap64 ((wrap64 ((x0.length:Int)-1))*(wrap64 ((x1.length:Int)-1))))+1)then(if(wrap64 ((wrap64 ((wrap64 ((x0.length:Int)-1))*(wrap64 ((x1.length:Int)-1))))+1):Int).toNat≤7036874417766 then(gl0 x1 (wrap64 ((wrap64 ((x0.length:Int)-1))*(wrap64 ((x1.length:Int)-1)))) ((List.replicate (wrap64 ((wrap64 ((wrap64 ((x0.length:Int)-1))*(wrap64 ((x1.length:Int)-1))))+1):Int).toNat ((false,(⟨#[]⟩:ByteArray)),(⟨#[]⟩:ByteArray))).length:Int) 0 x0 (List.replicate (wrap64 ((wrap64 ((wrap64 ((x0.length:Int)-1))*(wrap64 ((x1.length:Int)-1))))+1):Int).toNat ((false,(⟨#[]⟩:ByteArray)),(⟨#[]⟩:ByteArray))))else(none))else(none))else(none)))))
theorem e17 (s:D17.ask.T):D17.ev E0 (A9j c83 c84 c85 c86 c87 c88 c89 c90 c91 c92 c93) (B0T gl0 gl1 gl2 gl3) s=B17 gl0 c83 s.1.1 s.1.2.1:=by kernel_rfl
end
noncomputable def C9P:Sk:=⟨[(0, .d (.li (.ag (.pr (.ag (.pr .bo .st)) .st)))),(1, .d (.li (.ag (.pr (.ag (.pr .bo .st)) .st)))),(12, .d (.it .i64)),(13, .d (.it .i64))],[]⟩
noncomputable def C3C (gl0:(List TQ)→(List TQ)→Int→Int→Option R18):List (C7 R18):=[⟨4,C9P,fun s=>gl0 s.1.1 s.1.2.1 s.1.2.2.1 s.1.2.2.2.1⟩]
section
variable (gl0:(List TQ)→(List TQ)→Int→Int→Option R18)
noncomputable def A8u (x0:(List TQ)) (x1:(List TQ)) (x12:Int) (x13:Int):Option R18:=if x13<x12 then(if 0≤x13 then(if x13<(x0.length:Int)then(if 0≤x13 then(if x13<(x1.length:Int)then(B3 ((!((((((C4 ((false,(⟨#[]⟩:ByteArray)),(⟨#[]⟩:ByteArray)) x0 x13).1).1)==(((C4 ((false,(⟨#[]⟩:ByteArray)),(⟨#[]⟩:ByteArray)) x1 x13).1).1))&&(E4 (((C4 ((false,(⟨#[]⟩:ByteArray)),(⟨#[]⟩:ByteArray)) x0 x13).1).2) (((C4 ((false,(⟨#[]⟩:ByteArray)),(⟨#[]⟩:ByteArray)) x1 x13).1).2)))&&(E4 ((C4 ((false,(⟨#[]⟩:ByteArray)),(⟨#[]⟩:ByteArray)) x0 x13).2) ((C4 ((false,(⟨#[]⟩:ByteArray)),(⟨#[]⟩:ByteArray)) x1 x13).2))))) (some false) (gl0 x0 x1 x12 (wrap64 (x13+1))))else(none))else(none))else(none))else(none))else(some true)
theorem E1m (s0:C5 D18.ask.bl) (s:C9P.T):D18.po E0 [] (C3C gl0) s0 0 (C9P.mk' s)=A8u gl0 s.1.1 s.1.2.1 s.1.2.2.1 s.1.2.2.2.1:=by kernel_rfl
noncomputable def B18 (x0:(List TQ)) (x1:(List TQ)):Option R18:=if(x0.length:Int)≠(x1.length:Int)then(some false)else(gl0 x0 x1 (x0.length:Int) 0)
theorem e18 (s:D18.ask.T):D18.ev E0 [] (C3C gl0) s=B18 gl0 s.1.1 s.1.2.1:=by kernel_rfl
end
noncomputable def C4A:Sk:=⟨[(0, .d (.li (.ag (.pr (.ag (.pr .bo .st)) .st)))),(3, .d (.it .i64))],[]⟩
noncomputable def C7s (gl0:(List TQ)→Int→Option S4):List (C7 S4):=[⟨2,C4A,fun s=>gl0 s.1.1 s.1.2.1⟩]
noncomputable def C7x (c123:TQ→Option A5Y):List FE:=[C1u c123]
section
variable (gl0:(List TQ)→Int→Option S4) (c123:TQ→Option A5Y)
noncomputable def A9X (x0:(List TQ)) (x3:Int):Option S4:=if x3>0 then(if 0≤wrap64 (x3-1)then(if wrap64 (x3-1)<(x0.length:Int)then((c123 (C4 ((false,(⟨#[]⟩:ByteArray)),(⟨#[]⟩:ByteArray)) x0 (wrap64 (x3-1)))).bind fun r1=>(if r1=0 then(gl0 x0 (wrap64 (x3-1)))else(if(0:Int)≤0 then(if 0≤x3 then(if x3≤(x0.length:Int)then(if(x0.length:Int)≤(x0.length:Int)then(if(([]:List TQ).length+(slice_ x0 0 x3).length)*40≤140737488355328 then(some (([]:List TQ)++(slice_ x0 0 x3)))else(none))else(none))else(none))else(none))else(none))))else(none))else(none))else(if(0:Int)≤0 then(if 0≤x3 then(if x3≤(x0.length:Int)then(if(x0.length:Int)≤(x0.length:Int)then(if(([]:List TQ).length+(slice_ x0 0 x3).length)*40≤140737488355328 then(some (([]:List TQ)++(slice_ x0 0 x3)))else(none))else(none))else(none))else(none))else(none))
theorem E8i (s0:C5 D48.ask.bl) (s:C4A.T):D48.po E0 (C7x c123) (C7s gl0) s0 0 (C4A.mk' s)=A9X gl0 c123 s.1.1 s.1.2.1:=by kernel_rfl
noncomputable def B48 (x0:(List TQ)):Option S4:=gl0 x0 (x0.length:Int)
theorem e48 (s:D48.ask.T):D48.ev E0 (C7x c123) (C7s gl0) s=B48 gl0 s.1.1:=by kernel_rfl
end
noncomputable def D1C:Sk:=⟨[(3, .f (.a (.ref 3))),(6, .d (.li (.it .i64))),(7, .d (.it .i64)),(8, .d (.it .i64))],[(3, .own (.ag (.pr (.ag (.pr .bo .st)) .st)) true)]⟩
noncomputable def C7K (gl0:(List Int)→Int→Int→(List TQ)→Option R22):List (C7 R22):=[⟨3,D1C,fun s=>gl0 s.1.1 s.1.2.1 s.1.2.2.1 s.2.1⟩]
noncomputable def C4l (c48:(List TQ)→Option S4) (c81:Int→Option Y4):List FE:=[A8z c48,A6D c81]
section
variable (gl0:(List Int)→Int→Int→(List TQ)→Option R22) (c48:(List TQ)→Option S4) (c81:Int→Option Y4)
noncomputable def D0n (x6:(List Int)) (x7:Int) (x8:Int) (x3:(List TQ)):Option R22:=if x8<x7 then(if 0≤x8 then(if x8<(x6.length:Int)then((c81 (rd x6 x8)).bind fun r1=>(if(x3.length+1)*40≤140737488355328 then(gl0 x6 x7 (wrap64 (x8+1)) (x3++([(r1.1,r1.2)]:List TQ)))else(none)))else(none))else(none))else((c48 x3).bind fun r2=>(some r2))
theorem F0F (s0:C5 D22.ask.bl) (s:D1C.T):D22.po E0 (C4l c48 c81) (C7K gl0) s0 0 (D1C.mk' s)=D0n gl0 c48 c81 s.1.1 s.1.2.1 s.1.2.2.1 s.2.1:=by kernel_rfl
noncomputable def B22 (x0:(List Int)):Option R22:=gl0 x0 (x0.length:Int) 0 ([]:List TQ)
theorem e22 (s:D22.ask.T):D22.ev E0 (C4l c48 c81) (C7K gl0) s=B22 gl0 s.1.1:=by kernel_rfl
end
noncomputable def C4n:Sk:=⟨[(3, .f (.a (.ptr 3 0 []))),(5, .f (.a (.ref 5))),(11, .d (.li (.ag (.pr (.ag (.pr .bo .st)) .st)))),(12, .d (.it .i64)),(13, .d (.it .i64))],[(3, .cell (.ag (.pr (.ag (.pr .bo .st)) .st)) true),(5, .own (.ag (.pr (.ag (.pr .bo .st)) .st)) true)]⟩
noncomputable def C4H (gl0:(List TQ)→Int→Int→TQ→(List TQ)→Option A1Z):List (C7 A1Z):=[⟨3,C4n,fun s=>gl0 s.1.1 s.1.2.1 s.1.2.2.1 s.2.1 s.2.2.1⟩]
noncomputable def C7g (c92:(List TQ)→Option R3) (c142:TQ→TQ→Option v4):List FE:=[A6q c92,B1x c142]
section
variable (gl0:(List TQ)→Int→Int→TQ→(List TQ)→Option A1Z) (c92:(List TQ)→Option R3) (c142:TQ→TQ→Option v4)
noncomputable def C1G (x11:(List TQ)) (x12:Int) (x13:Int) (x3:TQ) (x5:(List TQ)):Option A1Z:=if x13<x12 then(if 0≤x13 then(if x13<(x11.length:Int)then((c142 (C4 ((false,(⟨#[]⟩:ByteArray)),(⟨#[]⟩:ByteArray)) x11 x13) x3).bind fun r1=>(if 0≤x13 then(if x13<(x5.length:Int)then(gl0 x11 x12 (wrap64 (x13+1)) x3 (x5.set (x13:Int).toNat (r1.1,r1.2)))else(none))else(none)))else(none))else(none))else((c92 x5).bind fun r2=>(some r2))
theorem E3G (s0:C5 B0Y.ask.bl) (s:C4n.T):B0Y.po E0 (C7g c92 c142) (C4H gl0) s0 0 (C4n.mk' s)=C1G gl0 c92 c142 s.1.1 s.1.2.1 s.1.2.2.1 s.2.1 s.2.2.1:=by kernel_rfl
noncomputable def C5G (x0:(List TQ)) (x1:TQ):Option A1Z:=if 0≤(x0.length:Int)then(if(x0.length:Int)≤(x0.length:Int)then(if((x0.length:Int):Int).toNat≤7036874417766 then(gl0 x0 (x0.length:Int) 0 x1 (List.replicate ((x0.length:Int):Int).toNat ((false,(⟨#[]⟩:ByteArray)),(⟨#[]⟩:ByteArray))))else(none))else(none))else(none)
theorem F4M (s:B0Y.ask.T):B0Y.ev E0 (C7g c92 c142) (C4H gl0) s=C5G gl0 s.1.1 s.1.2.1:=by kernel_rfl
end
noncomputable def C7N:Sk:=⟨[(0, .d (.li (.ag (.pr (.ag (.pr .bo .st)) .st)))),(1, .d (.li (.ag (.pr (.ag (.pr .bo .st)) .st)))),(5, .f (.a (.ref 5))),(14, .d (.it .i64)),(15, .d (.it .i64))],[(5, .own (.ag (.pr (.ag (.pr .bo .st)) .st)) true)]⟩
noncomputable def C6M (gl0:(List TQ)→(List TQ)→Int→Int→(List TQ)→Option o4):List (C7 o4):=[⟨3,C7N,fun s=>gl0 s.1.1 s.1.2.1 s.1.2.2.1 s.1.2.2.2.1 s.2.1⟩]
noncomputable def C4C (c88:TQ→TQ→Option R88) (c92:(List TQ)→Option R3) (c151:(List TQ)→Int→Option A5r):List FE:=[B9s c88,A6q c92,C1o c151]
section
variable (gl0:(List TQ)→(List TQ)→Int→Int→(List TQ)→Option o4) (c88:TQ→TQ→Option R88) (c92:(List TQ)→Option R3) (c151:(List TQ)→Int→Option A5r)
noncomputable def A8Y (x0:(List TQ)) (x1:(List TQ)) (x14:Int) (x15:Int) (x5:(List TQ)):Option o4:=if x15<x14 then((c151 x0 x15).bind fun r1=>((c151 x1 x15).bind fun r2=>((c88 (r1.1,r1.2) (r2.1,r2.2)).bind fun r3=>(if 0≤x15 then(if x15<(x5.length:Int)then(gl0 x0 x1 x14 (wrap64 (x15+1)) (x5.set (x15:Int).toNat (r3.1,r3.2)))else(none))else(none)))))else((c92 x5).bind fun r4=>(some r4))
theorem D9o (s0:C5 A9d.ask.bl) (s:C7N.T):A9d.po E0 (C4C c88 c92 c151) (C6M gl0) s0 0 (C7N.mk' s)=A8Y gl0 c88 c92 c151 s.1.1 s.1.2.1 s.1.2.2.1 s.1.2.2.2.1 s.2.1:=by kernel_rfl
noncomputable def B5V (x0:(List TQ)) (x1:(List TQ)):Option o4:=if 0≤mx (x0.length:Int) (x1.length:Int)then(if mx (x0.length:Int) (x1.length:Int)≤mx (x0.length:Int) (x1.length:Int)then(if(mx (x0.length:Int) (x1.length:Int):Int).toNat≤7036874417766 then(gl0 x0 x1 ((List.replicate (mx (x0.length:Int) (x1.length:Int):Int).toNat ((false,(⟨#[]⟩:ByteArray)),(⟨#[]⟩:ByteArray))).length:Int) 0 (List.replicate (mx (x0.length:Int) (x1.length:Int):Int).toNat ((false,(⟨#[]⟩:ByteArray)),(⟨#[]⟩:ByteArray))))else(none))else(none))else(none)
theorem E7p (s:A9d.ask.T):A9d.ev E0 (C4C c88 c92 c151) (C6M gl0) s=B5V gl0 s.1.1 s.1.2.1:=by kernel_rfl
end
noncomputable def C7r:Sk:=⟨[(0, .d (.li (.ag (.pr (.ag (.pr .bo .st)) .st)))),(6, .d (.li (.ag (.pr (.ag (.pr .bo .st)) .st)))),(7, .d (.li (.ag (.pr (.ag (.pr .bo .st)) .st)))),(8, .d (.li (.ag (.pr (.ag (.pr .bo .st)) .st)))),(9, .d (.li (.ag (.pr (.ag (.pr .bo .st)) .st))))],[]⟩
noncomputable def C2W (gl0:(List TQ)→(List TQ)→(List TQ)→(List TQ)→(List TQ)→Option A0g):List (C7 A0g):=[⟨4,C7r,fun s=>gl0 s.1.1 s.1.2.1 s.1.2.2.1 s.1.2.2.2.1 s.1.2.2.2.2.1⟩]
noncomputable def D0c (c86:(List Int)→Option c8) (c91:(List TQ)→(List TQ)→Option O9) (c137:(List TQ)→TQ→Option A1Z) (c144:(List TQ)→(List TQ)→Option Q9) (c147:TQ→Option A2x) (c165:(List TQ)→(List TQ)→Option A3z) (c166:(List TQ)→(List TQ)→Option o4):List FE:=[B5C c86,B2u c91,D1e c137,B7B c144,B8e c147,B7K c165,C0r c166]
section
variable (gl0:(List TQ)→(List TQ)→(List TQ)→(List TQ)→(List TQ)→Option A0g) (c86:(List Int)→Option c8) (c91:(List TQ)→(List TQ)→Option O9) (c137:(List TQ)→TQ→Option A1Z) (c144:(List TQ)→(List TQ)→Option Q9) (c147:TQ→Option A2x) (c165:(List TQ)→(List TQ)→Option A3z) (c166:(List TQ)→(List TQ)→Option o4)
noncomputable def C5f (x0:(List TQ)) (x6:(List TQ)) (x7:(List TQ)) (x8:(List TQ)) (x9:(List TQ)):Option A0g:=if(x7.length:Int)>1 then((c144 x6 x7).bind fun r1=>((c91 r1.1 x9).bind fun r2=>((c166 x8 r2).bind fun r3=>(gl0 x0 x7 r1.2 x9 r3))))else(if(x7.length:Int)=0 then(some (([]:List TQ),false))else(if(0:Int)≤0 then(if 0<(x7.length:Int)then((c147 (C4 ((false,(⟨#[]⟩:ByteArray)),(⟨#[]⟩:ByteArray)) x7 0)).bind fun r4=>((c137 x9 (r4.1,r4.2)).bind fun r5=>((c165 x0 r5).bind fun r6=>(some (r6,true)))))else(none))else(none)))
theorem F6v (s0:C5 B0G.ask.bl) (s:C7r.T):B0G.po E0 (D0c c86 c91 c137 c144 c147 c165 c166) (C2W gl0) s0 0 (C7r.mk' s)=C5f gl0 c91 c137 c144 c147 c165 c166 s.1.1 s.1.2.1 s.1.2.2.1 s.1.2.2.2.1 s.1.2.2.2.2.1:=by kernel_rfl
noncomputable def C8G (x0:(List TQ)) (x1:(List TQ)):Option A0g:=(c165 x0 x1).bind fun r1=>((c86 ([1]:List Int)).bind fun r2=>(gl0 x0 x0 r1 ([]:List TQ) r2))
theorem E6z (s:B0G.ask.T):B0G.ev E0 (D0c c86 c91 c137 c144 c147 c165 c166) (C2W gl0) s=C8G gl0 c86 c165 s.1.1 s.1.2.1:=by kernel_rfl
end
noncomputable def C5A:Sk:=⟨[(0, .d (.li (.li (.ag (.pr (.ag (.pr .bo .st)) .st))))),(3, .d (.it .i64))],[]⟩
noncomputable def C6k (gl0:(List (List TQ))→Int→Option T6):List (C7 T6):=[⟨2,C5A,fun s=>gl0 s.1.1 s.1.2.1⟩]
section
variable (gl0:(List (List TQ))→Int→Option T6)
noncomputable def A6v (x0:(List (List TQ))) (x3:Int):Option T6:=if x3>0 then(if 0≤wrap64 (x3-1)then(if wrap64 (x3-1)<(x0.length:Int)then(if((C4 ([]:List TQ) x0 (wrap64 (x3-1))).length:Int)=0 then(gl0 x0 (wrap64 (x3-1)))else(if(0:Int)≤0 then(if 0≤x3 then(if x3≤x3 then(if x3≤(x0.length:Int)then(some (slice_ x0 0 x3))else(none))else(none))else(none))else(none)))else(none))else(none))else(if(0:Int)≤0 then(if 0≤x3 then(if x3≤x3 then(if x3≤(x0.length:Int)then(some (slice_ x0 0 x3))else(none))else(none))else(none))else(none))
theorem F2g (s0:C5 B2e.ask.bl) (s:C5A.T):B2e.po E0 [] (C6k gl0) s0 0 (C5A.mk' s)=A6v gl0 s.1.1 s.1.2.1:=by kernel_rfl
noncomputable def B2x (x0:(List (List TQ))):Option T6:=gl0 x0 (x0.length:Int)
theorem E3r (s:B2e.ask.T):B2e.ev E0 [] (C6k gl0) s=B2x gl0 s.1.1:=by kernel_rfl
end
noncomputable def C7F:Sk:=⟨[(2, .d (.li (.li (.ag (.pr (.ag (.pr .bo .st)) .st))))),(3, .d (.li (.ag (.pr (.ag (.pr .bo .st)) .st)))),(4, .f (.a (.ptr 4 0 []))),(10, .f (.a (.ref 10))),(11, .d (.it .i64)),(12, .f (.a (.ref 12))),(13, .d (.it .i64))],[(4, .cell (.ag (.li (.ag (.pr (.ag (.pr .bo .st)) .st)))) true),(10, .own (.li (.ag (.pr (.ag (.pr .bo .st)) .st))) true),(12, .own (.li (.ag (.pr (.ag (.pr .bo .st)) .st))) true)]⟩
noncomputable def C6f:Sk:=⟨[(2, .d (.li (.li (.ag (.pr (.ag (.pr .bo .st)) .st))))),(3, .d (.li (.ag (.pr (.ag (.pr .bo .st)) .st)))),(4, .f (.a (.ptr 4 0 []))),(10, .f (.a (.ref 10))),(11, .d (.it .i64)),(12, .f (.a (.ref 12))),(13, .d (.it .i64)),(14, .d (.li (.ag (.pr (.ag (.pr .bo .st)) .st)))),(60, .d (.it .i64)),(61, .d (.it .i64))],[(4, .cell (.ag (.li (.ag (.pr (.ag (.pr .bo .st)) .st)))) true),(10, .own (.li (.ag (.pr (.ag (.pr .bo .st)) .st))) true),(12, .own (.li (.ag (.pr (.ag (.pr .bo .st)) .st))) true)]⟩
noncomputable def B5s (gl0:(List (List TQ))→(List TQ)→Int→Int→(List TQ)→(List (List TQ))→(List (List TQ))→Option a8) (gl1:(List (List TQ))→(List TQ)→Int→Int→(List TQ)→Int→Int→(List TQ)→(List (List TQ))→(List (List TQ))→Option a8):List (C7 a8):=[⟨7,C7F,fun s=>gl0 s.1.1 s.1.2.1 s.1.2.2.1 s.1.2.2.2.1 s.2.1 s.2.2.1 s.2.2.2.1⟩,⟨13,C6f,fun s=>gl1 s.1.1 s.1.2.1 s.1.2.2.1 s.1.2.2.2.1 s.1.2.2.2.2.1 s.1.2.2.2.2.2.1 s.1.2.2.2.2.2.2.1 s.2.1 s.2.2.1 s.2.2.2.1⟩]
noncomputable def B7x (c122:(List (List TQ))→Option T6) (c146:(List TQ)→(List TQ)→(List TQ)→Option A3j) (c166:(List TQ)→(List TQ)→Option o4):List FE:=[A8S c122,C0e c146,C0r c166]
section
variable (gl0:(List (List TQ))→(List TQ)→Int→Int→(List TQ)→(List (List TQ))→(List (List TQ))→Option a8) (gl1:(List (List TQ))→(List TQ)→Int→Int→(List TQ)→Int→Int→(List TQ)→(List (List TQ))→(List (List TQ))→Option a8) (c122:(List (List TQ))→Option T6) (c146:(List TQ)→(List TQ)→(List TQ)→Option A3j) (c166:(List TQ)→(List TQ)→Option o4)
noncomputable def C5C (x2:(List (List TQ))) (x3:(List TQ)) (x11:Int) (x13:Int) (x4:(List TQ)) (x10:(List (List TQ))) (x12:(List (List TQ))):Option a8:=if x13≥0 then(if 0≤wrap64 ((wrap64 (x13+x11))-1)then(if wrap64 ((wrap64 (x13+x11))-1)<(x10.length:Int)then((c146 x4 (C4 ([]:List TQ) x10 (wrap64 ((wrap64 (x13+x11))-1))) x3).bind fun r1=>(if 0≤x13 then(if x13<(x12.length:Int)then(if(r1.length:Int)=0 then(gl0 x2 x3 x11 (wrap64 (x13-1)) x4 x10 (x12.set (x13:Int).toNat r1))else(gl1 x2 x3 x11 x13 r1 (wrap64 (x11-1)) 0 x4 x10 (x12.set (x13:Int).toNat r1)))else(none))else(none)))else(none))else(none))else((c122 x12).bind fun r2=>(if(0:Int)≤0 then(if 0≤wrap64 (x11-1)then(if wrap64 (x11-1)≤(x10.length:Int)then(if(x10.length:Int)≤(x10.length:Int)then((c122 (slice_ x10 0 (wrap64 (x11-1)))).bind fun r3=>(some (r2,r3)))else(none))else(none))else(none))else(none)))
theorem E2o (s0:C5 A6C.ask.bl) (s:C7F.T):A6C.po E0 (B7x c122 c146 c166) (B5s gl0 gl1) s0 0 (C7F.mk' s)=C5C gl0 gl1 c122 c146 s.1.1 s.1.2.1 s.1.2.2.1 s.1.2.2.2.1 s.2.1 s.2.2.1 s.2.2.2.1:=by kernel_rfl
noncomputable def C2Q (x2:(List (List TQ))) (x3:(List TQ)) (x11:Int) (x13:Int) (x14:(List TQ)) (x60:Int) (x61:Int) (x4:(List TQ)) (x10:(List (List TQ))) (x12:(List (List TQ))):Option a8:=if x61<x60 then(if 0≤wrap64 (x13+x61)then(if wrap64 (x13+x61)<(x10.length:Int)then(if 0≤x61 then(if x61<(x2.length:Int)then((c146 x4 x14 (C4 ([]:List TQ) x2 x61)).bind fun r1=>((c166 (C4 ([]:List TQ) x10 (wrap64 (x13+x61))) r1).bind fun r2=>(if 0≤wrap64 (x13+x61)then(if wrap64 (x13+x61)<(x10.length:Int)then(gl1 x2 x3 x11 x13 x14 x60 (wrap64 (x61+1)) x4 (x10.set (wrap64 (x13+x61):Int).toNat r2) x12)else(none))else(none))))else(none))else(none))else(none))else(none))else(gl0 x2 x3 x11 (wrap64 (x13-1)) x4 x10 x12)
theorem E6f (s0:C5 A6C.ask.bl) (s:C6f.T):A6C.po E0 (B7x c122 c146 c166) (B5s gl0 gl1) s0 1 (C6f.mk' s)=C2Q gl0 gl1 c146 c166 s.1.1 s.1.2.1 s.1.2.2.1 s.1.2.2.2.1 s.1.2.2.2.2.1 s.1.2.2.2.2.2.1 s.1.2.2.2.2.2.2.1 s.2.1 s.2.2.1 s.2.2.2.1:=by kernel_rfl
noncomputable def C6K (x0:(List TQ)) (x1:(List (List TQ))) (x2:(List (List TQ))) (x3:(List TQ)):Option a8:=if(([]:List (List TQ)).length+x1.length)*24≤140737488355328 then(if(x1.length:Int)<(x2.length:Int)then((c122 (([]:List (List TQ))++x1)).bind fun r1=>(some (([]:List (List TQ)),r1)))else(if 0≤wrap64 ((wrap64 ((x1.length:Int)-(x2.length:Int)))+1)then(if wrap64 ((wrap64 ((x1.length:Int)-(x2.length:Int)))+1)≤wrap64 ((wrap64 ((x1.length:Int)-(x2.length:Int)))+1)then(if(wrap64 ((wrap64 ((x1.length:Int)-(x2.length:Int)))+1):Int).toNat≤11728124029610 then(gl0 x2 x3 (x2.length:Int) (wrap64 ((x1.length:Int)-(x2.length:Int))) x0 (([]:List (List TQ))++x1) (List.replicate (wrap64 ((wrap64 ((x1.length:Int)-(x2.length:Int)))+1):Int).toNat ([]:List TQ)))else(none))else(none))else(none)))else(none)
theorem F5r (s:A6C.ask.T):A6C.ev E0 (B7x c122 c146 c166) (B5s gl0 gl1) s=C6K gl0 c122 s.1.1 s.1.2.1 s.1.2.2.1 s.1.2.2.2.1:=by kernel_rfl
end
noncomputable def D2K (c153Large:(List TQ)→Option A6l):List FE:=[D0v c153Large]
section
variable (c153Large:(List TQ)→Option A6l)
noncomputable def D0y (x0:(List TQ)):Option A9x:=(c153Large x0).bind fun r1=>(some r1)
theorem F7I (s:B8z.ask.T):B8z.ev E0 (D2K c153Large) [] s=D0y c153Large s.1.1:=by kernel_rfl
end
noncomputable def C1Q:Sk:=⟨[(0, .d (.li (.li (.ag (.pr (.ag (.pr .bo .st)) .st))))),(1, .f (.cl 176 [])),(7, .d (.it .i64)),(8, .d (.it .i64))],[]⟩
noncomputable def C9t (gl0:(List (List TQ))→Int→Int→Option A2v):List (C7 A2v):=[⟨2,C1Q,fun s=>gl0 s.1.1 s.1.2.1 s.1.2.2.1⟩]
noncomputable def C5g (c176:(List TQ)→Option A9x):List FE:=[D6h c176]
section
variable (gl0:(List (List TQ))→Int→Int→Option A2v) (c176:(List TQ)→Option A9x)
noncomputable def A7e (x0:(List (List TQ))) (x7:Int) (x8:Int):Option A2v:=if x8<x7 then(if 0≤x8 then(if x8<(x0.length:Int)then((c176 (C4 ([]:List TQ) x0 x8)).bind fun r1=>(B3 (r1) (some x8) (gl0 x0 x7 (wrap64 (x8+1)))))else(none))else(none))else(some (-1))
theorem E8D (s0:C5 B0n.ask.bl) (s:C1Q.T):B0n.po E0 (C5g c176) (C9t gl0) s0 0 (C1Q.mk' s)=A7e gl0 c176 s.1.1 s.1.2.1 s.1.2.2.1:=by kernel_rfl
noncomputable def B5l (x0:(List (List TQ))):Option A2v:=gl0 x0 (x0.length:Int) 0
theorem F4q (s:B0n.ask.T):B0n.ev E0 (C5g c176) (C9t gl0) s=B5l gl0 s.1.1:=by kernel_rfl
end
noncomputable def D5m (c216Large:(List (List TQ))→Option A2v):List FE:=[D5P c216Large]
section
variable (c216Large:(List (List TQ))→Option A2v)
noncomputable def C7S (x0:(List (List TQ))):Option B2r:=(c216Large x0).bind fun r1=>(some (decide (r1≥0)))
theorem E1z (s:C0o.ask.T):C0o.ev E0 (D5m c216Large) [] s=C7S c216Large s.1.1:=by kernel_rfl
end
noncomputable def D5V (c175Large:(List (List TQ))→Option B2r):List FE:=[D1b c175Large]
section
variable (c175Large:(List (List TQ))→Option B2r)
noncomputable def C2m (x0:(List (List TQ))):Option B2S:=(c175Large x0).bind fun r1=>(some r1)
theorem E6x (s:B8P.ask.T):B8P.ev E0 (D5V c175Large) [] s=C2m c175Large s.1.1:=by kernel_rfl
end
noncomputable def D6e (c128:(List (List TQ))→Option B2S):List FE:=[D3b c128]
section
variable (c128:(List (List TQ))→Option B2S)
noncomputable def B5M (x0:(List (List TQ))):Option i8:=if(x0.length:Int)>65 then(some true)else((c128 x0).bind fun r1=>(some r1))
theorem E1w (s:B8o.ask.T):B8o.ev E0 (D6e c128) [] s=B5M c128 s.1.1:=by kernel_rfl
end
noncomputable def D2S (c83:(List TQ)→(List (List (List TQ)))→Option Q4) (c106:(List TQ)→(List TQ)→Option A0g) (c107:(List TQ)→(List (List TQ))→(List (List TQ))→(List TQ)→Option a8) (c108:(List (List TQ))→Option i8):List FE:=[A5j c83,C1R c106,C3X c107,A7n c108]
section
variable (c83:(List TQ)→(List (List (List TQ)))→Option Q4) (c106:(List TQ)→(List TQ)→Option A0g) (c107:(List TQ)→(List (List TQ))→(List (List TQ))→(List TQ)→Option a8) (c108:(List (List TQ))→Option i8)
noncomputable def B28 (x0:(List TQ)) (x1:(List (List TQ))) (x2:(List (List TQ))):Option R28:=(c83 x0 ([x1,x2]:List (List (List TQ)))).bind fun r1=>(if r1≠0 then(some (([]:List (List TQ)),([]:List (List TQ)),r1))else(if(x2.length:Int)=0 then(some (([]:List (List TQ)),([]:List (List TQ)),6))else(if 0≤wrap64 ((x2.length:Int)-1)then(if wrap64 ((x2.length:Int)-1)<(x2.length:Int)then((c106 x0 (C4 ([]:List TQ) x2 (wrap64 ((x2.length:Int)-1)))).bind fun r2=>(B3 ((!r2.2)) (some (([]:List (List TQ)),([]:List (List TQ)),6)) ((c107 x0 x1 x2 r2.1).bind fun r3=>((c108 r3.1).bind fun r4=>(B3 (r4) (some (([]:List (List TQ)),([]:List (List TQ)),4)) ((c108 r3.2).bind fun r5=>(B3 (r5) (some (([]:List (List TQ)),([]:List (List TQ)),4)) (some (r3.1,r3.2,0)))))))))else(none))else(none))))
theorem e28 (s:D28.ask.T):D28.ev E0 (D2S c83 c106 c107 c108) [] s=B28 c83 c106 c107 c108 s.1.1 s.1.2.1 s.1.2.2.1:=by kernel_rfl
end
noncomputable def C1A:Sk:=⟨[(0, .d (.li (.li (.ag (.pr (.ag (.pr .bo .st)) .st))))),(1, .d (.li (.li (.ag (.pr (.ag (.pr .bo .st)) .st))))),(12, .d (.it .i64)),(13, .d (.it .i64))],[]⟩
noncomputable def C4z (gl0:(List (List TQ))→(List (List TQ))→Int→Int→Option Z8):List (C7 Z8):=[⟨4,C1A,fun s=>gl0 s.1.1 s.1.2.1 s.1.2.2.1 s.1.2.2.2.1⟩]
noncomputable def C9A (c18:(List TQ)→(List TQ)→Option R18):List FE:=[C4K c18]
section
variable (gl0:(List (List TQ))→(List (List TQ))→Int→Int→Option Z8) (c18:(List TQ)→(List TQ)→Option R18)
noncomputable def A7B (x0:(List (List TQ))) (x1:(List (List TQ))) (x12:Int) (x13:Int):Option Z8:=if x13<x12 then(if 0≤x13 then(if x13<(x0.length:Int)then(if 0≤x13 then(if x13<(x1.length:Int)then((c18 (C4 ([]:List TQ) x0 x13) (C4 ([]:List TQ) x1 x13)).bind fun r1=>(B3 ((!r1)) (some false) (gl0 x0 x1 x12 (wrap64 (x13+1)))))else(none))else(none))else(none))else(none))else(some true)
theorem F4z (s0:C5 D29.ask.bl) (s:C1A.T):D29.po E0 (C9A c18) (C4z gl0) s0 0 (C1A.mk' s)=A7B gl0 c18 s.1.1 s.1.2.1 s.1.2.2.1 s.1.2.2.2.1:=by kernel_rfl
noncomputable def B29 (x0:(List (List TQ))) (x1:(List (List TQ))):Option Z8:=if(x0.length:Int)≠(x1.length:Int)then(some false)else(gl0 x0 x1 (x0.length:Int) 0)
theorem e29 (s:D29.ask.T):D29.ev E0 (C9A c18) (C4z gl0) s=B29 gl0 s.1.1 s.1.2.1:=by kernel_rfl
end
noncomputable def C6a:Sk:=⟨[(2, .d (.li (.ag (.pr (.ag (.pr .bo .st)) .st)))),(3, .f (.a (.ptr 3 0 []))),(7, .f (.a (.ref 7))),(13, .d (.li (.li (.ag (.pr (.ag (.pr .bo .st)) .st))))),(14, .d (.it .i64)),(15, .d (.it .i64))],[(3, .cell (.ag (.li (.ag (.pr (.ag (.pr .bo .st)) .st)))) true),(7, .own (.li (.ag (.pr (.ag (.pr .bo .st)) .st))) true)]⟩
noncomputable def C6I (gl0:(List TQ)→(List (List TQ))→Int→Int→(List TQ)→(List (List TQ))→Option A1a):List (C7 A1a):=[⟨3,C6a,fun s=>gl0 s.1.1 s.1.2.1 s.1.2.2.1 s.1.2.2.2.1 s.2.1 s.2.2.1⟩]
noncomputable def C5y (c122:(List (List TQ))→Option T6) (c146:(List TQ)→(List TQ)→(List TQ)→Option A3j):List FE:=[A8S c122,C0e c146]
section
variable (gl0:(List TQ)→(List (List TQ))→Int→Int→(List TQ)→(List (List TQ))→Option A1a) (c122:(List (List TQ))→Option T6) (c146:(List TQ)→(List TQ)→(List TQ)→Option A3j)
noncomputable def C3h (x2:(List TQ)) (x13:(List (List TQ))) (x14:Int) (x15:Int) (x3:(List TQ)) (x7:(List (List TQ))):Option A1a:=if x15<x14 then(if 0≤x15 then(if x15<(x13.length:Int)then((c146 x3 (C4 ([]:List TQ) x13 x15) x2).bind fun r1=>(if 0≤x15 then(if x15<(x7.length:Int)then(gl0 x2 x13 x14 (wrap64 (x15+1)) x3 (x7.set (x15:Int).toNat r1))else(none))else(none)))else(none))else(none))else((c122 x7).bind fun r2=>(some r2))
theorem F3B (s0:C5 B0l.ask.bl) (s:C6a.T):B0l.po E0 (C5y c122 c146) (C6I gl0) s0 0 (C6a.mk' s)=C3h gl0 c122 c146 s.1.1 s.1.2.1 s.1.2.2.1 s.1.2.2.2.1 s.2.1 s.2.2.1:=by kernel_rfl
noncomputable def C9M (x0:(List TQ)) (x1:(List (List TQ))) (x2:(List TQ)):Option A1a:=if 0≤(x1.length:Int)then(if(x1.length:Int)≤(x1.length:Int)then(if((x1.length:Int):Int).toNat≤11728124029610 then(gl0 x2 x1 (x1.length:Int) 0 x0 (List.replicate ((x1.length:Int):Int).toNat ([]:List TQ)))else(none))else(none))else(none)
theorem F4g (s:B0l.ask.T):B0l.ev E0 (C5y c122 c146) (C6I gl0) s=C9M gl0 s.1.1 s.1.2.1 s.1.2.2.1:=by kernel_rfl
end
noncomputable def D1E (c106:(List TQ)→(List TQ)→Option A0g) (c131:(List TQ)→(List (List TQ))→(List TQ)→Option A1a):List FE:=[C1R c106,D3r c131]
section
variable (c106:(List TQ)→(List TQ)→Option A0g) (c131:(List TQ)→(List (List TQ))→(List TQ)→Option A1a)
noncomputable def C9Y (x0:(List TQ)) (x1:(List (List TQ))):Option B0E:=if(x1.length:Int)=0 then(some (([]:List (List TQ)),true))else(if 0≤wrap64 ((x1.length:Int)-1)then(if wrap64 ((x1.length:Int)-1)<(x1.length:Int)then((c106 x0 (C4 ([]:List TQ) x1 (wrap64 ((x1.length:Int)-1)))).bind fun r1=>(B3 ((!r1.2)) (some (([]:List (List TQ)),false)) ((c131 x0 x1 r1.1).bind fun r2=>(some (r2,true)))))else(none))else(none))
theorem F5a (s:B8H.ask.T):B8H.ev E0 (D1E c106 c131) [] s=C9Y c106 c131 s.1.1 s.1.2.1:=by kernel_rfl
end
noncomputable def C8u (x0:(List (List TQ))):Option B2n:=some x0
theorem F5K (s:B7y.ask.T):B7y.ev E0 [] [] s=C8u s.1.1:=by kernel_rfl
noncomputable def D7c (c108:(List (List TQ))→Option i8) (c112:(List (List TQ))→Option B2n):List FE:=[A7n c108,D6z c112]
section
variable (c108:(List (List TQ))→Option i8) (c112:(List (List TQ))→Option B2n)
noncomputable def C1x (x0:((List (List TQ))×Unit)):Option B0k:=(c112 x0.1).bind fun r1=>((c108 r1).bind fun r2=>(B3 (r2) (some (([]:List (List TQ)),4)) (some (r1,0))))
theorem E2c (s:B8Q.ask.T):B8Q.ev E0 (D7c c108 c112) [] s=C1x c108 c112 s.1.1:=by kernel_rfl
end
noncomputable def C9L:Sk:=⟨[(3, .f (.a (.ptr 3 0 []))),(9, .f (.a (.ptr 9 0 [])))],[(3, .cell (.ag (.li (.ag (.pr (.ag (.pr .bo .st)) .st)))) true),(9, .cell (.ar (.pr (.li (.li (.ag (.pr (.ag (.pr .bo .st)) .st)))) (.li (.li (.ag (.pr (.ag (.pr .bo .st)) .st)))))) true)]⟩
noncomputable def C7k (gl0:(List TQ)→((List (List TQ))×(List (List TQ)))→Option R31):List (C7 R31):=[⟨5,C9L,fun s=>gl0 s.2.1 s.2.2.1⟩]
noncomputable def C8Q (c83:(List TQ)→(List (List (List TQ)))→Option Q4) (c86:(List Int)→Option c8) (c107:(List TQ)→(List (List TQ))→(List (List TQ))→(List TQ)→Option a8) (c110:(List TQ)→(List (List TQ))→Option B0E) (c111Gcd:((List (List TQ))×Unit)→Option B0k):List FE:=[A5j c83,B5C c86,C3X c107,D6T c110,D7k c111Gcd]
section
variable (gl0:(List TQ)→((List (List TQ))×(List (List TQ)))→Option R31) (c83:(List TQ)→(List (List (List TQ)))→Option Q4) (c86:(List Int)→Option c8) (c107:(List TQ)→(List (List TQ))→(List (List TQ))→(List TQ)→Option a8) (c110:(List TQ)→(List (List TQ))→Option B0E) (c111Gcd:((List (List TQ))×Unit)→Option B0k)
noncomputable def C8X (x3:(List TQ)) (x9:((List (List TQ))×(List (List TQ)))):Option R31:=if(x9.2.length:Int)>0 then((c110 x3 x9.2).bind fun r1=>(B3 ((!r1.2)) (some (([]:List (List TQ)),6)) ((c86 ([1]:List Int)).bind fun r2=>((c107 x3 x9.1 r1.1 r2).bind fun r3=>(gl0 x3 (r1.1,r3.2))))))else((c110 x3 x9.1).bind fun r4=>(B3 ((!r4.2)) (some (([]:List (List TQ)),6)) ((c111Gcd (r4.1,())).bind fun r5=>(some (r5.1,r5.2)))))
theorem F4D (s0:C5 D31.ask.bl) (s:C9L.T):D31.po E0 (C8Q c83 c86 c107 c110 c111Gcd) (C7k gl0) s0 0 (C9L.mk' s)=C8X gl0 c86 c107 c110 c111Gcd s.2.1 s.2.2.1:=by kernel_rfl
noncomputable def B31 (x0:(List TQ)) (x1:(List (List TQ))) (x2:(List (List TQ))):Option R31:=(c83 x0 ([x1,x2]:List (List (List TQ)))).bind fun r1=>(if r1≠0 then(some (([]:List (List TQ)),r1))else(gl0 x0 (x1,x2)))
theorem e31 (s:D31.ask.T):D31.ev E0 (C8Q c83 c86 c107 c110 c111Gcd) (C7k gl0) s=B31 gl0 c83 s.1.1 s.1.2.1 s.1.2.2.1:=by kernel_rfl
end
noncomputable def B3X (x0:(List (List TQ))) (x1:Int):Option A6h:=if x1<(x0.length:Int)then(if 0≤x1 then(if x1<(x0.length:Int)then(some (C4 ([]:List TQ) x0 x1))else(none))else(none))else(some ([]:List TQ))
theorem E5Y (s:B7s.ask.T):B7s.ev E0 [] [] s=B3X s.1.1 s.1.2.1:=by kernel_rfl
noncomputable def C0z:Sk:=⟨[(0, .d (.li (.li (.ag (.pr (.ag (.pr .bo .st)) .st))))),(1, .d (.li (.li (.ag (.pr (.ag (.pr .bo .st)) .st))))),(5, .f (.a (.ref 5))),(14, .d (.it .i64)),(15, .d (.it .i64))],[(5, .own (.li (.ag (.pr (.ag (.pr .bo .st)) .st))) true)]⟩
noncomputable def C6Y (gl0:(List (List TQ))→(List (List TQ))→Int→Int→(List (List TQ))→Option A0o):List (C7 A0o):=[⟨3,C0z,fun s=>gl0 s.1.1 s.1.2.1 s.1.2.2.1 s.1.2.2.2.1 s.2.1⟩]
noncomputable def C6m (c90:(List TQ)→(List TQ)→Option g7) (c122:(List (List TQ))→Option T6) (c174:(List (List TQ))→Int→Option A6h):List FE:=[B5G c90,A8S c122,C9q c174]
section
variable (gl0:(List (List TQ))→(List (List TQ))→Int→Int→(List (List TQ))→Option A0o) (c90:(List TQ)→(List TQ)→Option g7) (c122:(List (List TQ))→Option T6) (c174:(List (List TQ))→Int→Option A6h)
noncomputable def A8U (x0:(List (List TQ))) (x1:(List (List TQ))) (x14:Int) (x15:Int) (x5:(List (List TQ))):Option A0o:=if x15<x14 then((c174 x0 x15).bind fun r1=>((c174 x1 x15).bind fun r2=>((c90 r1 r2).bind fun r3=>(if 0≤x15 then(if x15<(x5.length:Int)then(gl0 x0 x1 x14 (wrap64 (x15+1)) (x5.set (x15:Int).toNat r3))else(none))else(none)))))else((c122 x5).bind fun r4=>(some r4))
theorem F1H (s0:C5 B1m.ask.bl) (s:C0z.T):B1m.po E0 (C6m c90 c122 c174) (C6Y gl0) s0 0 (C0z.mk' s)=A8U gl0 c90 c122 c174 s.1.1 s.1.2.1 s.1.2.2.1 s.1.2.2.2.1 s.2.1:=by kernel_rfl
noncomputable def B4p (x0:(List (List TQ))) (x1:(List (List TQ))):Option A0o:=if 0≤mx (x0.length:Int) (x1.length:Int)then(if mx (x0.length:Int) (x1.length:Int)≤mx (x0.length:Int) (x1.length:Int)then(if(mx (x0.length:Int) (x1.length:Int):Int).toNat≤11728124029610 then(gl0 x0 x1 ((List.replicate (mx (x0.length:Int) (x1.length:Int):Int).toNat ([]:List TQ)).length:Int) 0 (List.replicate (mx (x0.length:Int) (x1.length:Int):Int).toNat ([]:List TQ)))else(none))else(none))else(none)
theorem E5q (s:B1m.ask.T):B1m.ev E0 (C6m c90 c122 c174) (C6Y gl0) s=B4p gl0 s.1.1 s.1.2.1:=by kernel_rfl
end
noncomputable def C3A:Sk:=⟨[(2, .d (.li (.li (.ag (.pr (.ag (.pr .bo .st)) .st))))),(3, .f (.a (.ptr 3 0 []))),(7, .f (.a (.ref 7))),(28, .d (.li (.li (.ag (.pr (.ag (.pr .bo .st)) .st))))),(29, .d (.it .i64)),(30, .d (.it .i64))],[(3, .cell (.ag (.li (.ag (.pr (.ag (.pr .bo .st)) .st)))) true),(7, .own (.li (.ag (.pr (.ag (.pr .bo .st)) .st))) true)]⟩
noncomputable def C9v:Sk:=⟨[(2, .d (.li (.li (.ag (.pr (.ag (.pr .bo .st)) .st))))),(3, .f (.a (.ptr 3 0 []))),(7, .f (.a (.ref 7))),(8, .d (.it .i64)),(9, .d (.li (.ag (.pr (.ag (.pr .bo .st)) .st)))),(28, .d (.li (.li (.ag (.pr (.ag (.pr .bo .st)) .st))))),(29, .d (.it .i64)),(30, .d (.it .i64)),(35, .d (.li (.li (.ag (.pr (.ag (.pr .bo .st)) .st))))),(36, .d (.it .i64)),(37, .d (.it .i64))],[(3, .cell (.ag (.li (.ag (.pr (.ag (.pr .bo .st)) .st)))) true),(7, .own (.li (.ag (.pr (.ag (.pr .bo .st)) .st))) true)]⟩
noncomputable def C4m:Sk:=⟨[(3, .f (.a (.ptr 3 0 []))),(7, .f (.a (.ref 7))),(60, .d (.it .i64)),(61, .d (.it .i64))],[(3, .cell (.ag (.li (.ag (.pr (.ag (.pr .bo .st)) .st)))) true),(7, .own (.li (.ag (.pr (.ag (.pr .bo .st)) .st))) true)]⟩
noncomputable def B4b (gl0:(List (List TQ))→(List (List TQ))→Int→Int→(List TQ)→(List (List TQ))→Option T3) (gl1:(List (List TQ))→Int→(List TQ)→(List (List TQ))→Int→Int→(List (List TQ))→Int→Int→(List TQ)→(List (List TQ))→Option T3) (gl2:Int→Int→(List TQ)→(List (List TQ))→Option T3):List (C7 T3):=[⟨5,C3A,fun s=>gl0 s.1.1 s.1.2.1 s.1.2.2.1 s.1.2.2.2.1 s.2.1 s.2.2.1⟩,⟨8,C9v,fun s=>gl1 s.1.1 s.1.2.1 s.1.2.2.1 s.1.2.2.2.1 s.1.2.2.2.2.1 s.1.2.2.2.2.2.1 s.1.2.2.2.2.2.2.1 s.1.2.2.2.2.2.2.2.1 s.1.2.2.2.2.2.2.2.2.1 s.2.1 s.2.2.1⟩,⟨14,C4m,fun s=>gl2 s.1.1 s.1.2.1 s.2.1 s.2.2.1⟩]
noncomputable def B3x (c90:(List TQ)→(List TQ)→Option g7) (c91:(List TQ)→(List TQ)→Option O9) (c122:(List (List TQ))→Option T6) (c165:(List TQ)→(List TQ)→Option A3z):List FE:=[B5G c90,B2u c91,A8S c122,B7K c165]
section
variable (gl0:(List (List TQ))→(List (List TQ))→Int→Int→(List TQ)→(List (List TQ))→Option T3) (gl1:(List (List TQ))→Int→(List TQ)→(List (List TQ))→Int→Int→(List (List TQ))→Int→Int→(List TQ)→(List (List TQ))→Option T3) (gl2:Int→Int→(List TQ)→(List (List TQ))→Option T3) (c90:(List TQ)→(List TQ)→Option g7) (c91:(List TQ)→(List TQ)→Option O9) (c122:(List (List TQ))→Option T6) (c165:(List TQ)→(List TQ)→Option A3z)
noncomputable def A8j (x2:(List (List TQ))) (x28:(List (List TQ))) (x29:Int) (x30:Int) (x3:(List TQ)) (x7:(List (List TQ))):Option T3:=if x30<x29 then(if 0≤x30 then(if x30<(x28.length:Int)then(gl1 x2 x30 (C4 ([]:List TQ) x28 x30) x28 x29 x30 x2 (x2.length:Int) 0 x3 x7)else(none))else(none))else(gl2 (x7.length:Int) 0 x3 x7)
theorem F2n (s0:C5 A3E.ask.bl) (s:C3A.T):A3E.po E0 (B3x c90 c91 c122 c165) (B4b gl0 gl1 gl2) s0 0 (C3A.mk' s)=A8j gl1 gl2 s.1.1 s.1.2.1 s.1.2.2.1 s.1.2.2.2.1 s.2.1 s.2.2.1:=by kernel_rfl
noncomputable def A8h (x2:(List (List TQ))) (x8:Int) (x9:(List TQ)) (x28:(List (List TQ))) (x29:Int) (x30:Int) (x35:(List (List TQ))) (x36:Int) (x37:Int) (x3:(List TQ)) (x7:(List (List TQ))):Option T3:=if x37<x36 then(if 0≤x37 then(if x37<(x35.length:Int)then(if 0≤wrap64 (x8+x37)then(if wrap64 (x8+x37)<(x7.length:Int)then((c91 x9 (C4 ([]:List TQ) x35 x37)).bind fun r1=>((c90 (C4 ([]:List TQ) x7 (wrap64 (x8+x37))) r1).bind fun r2=>(if 0≤wrap64 (x8+x37)then(if wrap64 (x8+x37)<(x7.length:Int)then(gl1 x2 x8 x9 x28 x29 x30 x35 x36 (wrap64 (x37+1)) x3 (x7.set (wrap64 (x8+x37):Int).toNat r2))else(none))else(none))))else(none))else(none))else(none))else(none))else(gl0 x2 x28 x29 (wrap64 (x30+1)) x3 x7)
theorem E5T (s0:C5 A3E.ask.bl) (s:C9v.T):A3E.po E0 (B3x c90 c91 c122 c165) (B4b gl0 gl1 gl2) s0 1 (C9v.mk' s)=A8h gl0 gl1 c90 c91 s.1.1 s.1.2.1 s.1.2.2.1 s.1.2.2.2.1 s.1.2.2.2.2.1 s.1.2.2.2.2.2.1 s.1.2.2.2.2.2.2.1 s.1.2.2.2.2.2.2.2.1 s.1.2.2.2.2.2.2.2.2.1 s.2.1 s.2.2.1:=by kernel_rfl
noncomputable def A8L (x60:Int) (x61:Int) (x3:(List TQ)) (x7:(List (List TQ))):Option T3:=if x61<x60 then(if 0≤x61 then(if x61<(x7.length:Int)then((c165 x3 (C4 ([]:List TQ) x7 x61)).bind fun r1=>(if 0≤x61 then(if x61<(x7.length:Int)then(gl2 x60 (wrap64 (x61+1)) x3 (x7.set (x61:Int).toNat r1))else(none))else(none)))else(none))else(none))else((c122 x7).bind fun r2=>(some r2))
theorem E1c (s0:C5 A3E.ask.bl) (s:C4m.T):A3E.po E0 (B3x c90 c91 c122 c165) (B4b gl0 gl1 gl2) s0 2 (C4m.mk' s)=A8L gl2 c122 c165 s.1.1 s.1.2.1 s.2.1 s.2.2.1:=by kernel_rfl
noncomputable def B3L (x0:(List TQ)) (x1:(List (List TQ))) (x2:(List (List TQ))):Option T3:=if(x1.length:Int)=0 then(some ([]:List (List TQ)))else(if(x2.length:Int)=0 then(some ([]:List (List TQ)))else(if 0≤wrap64 ((wrap64 ((x1.length:Int)+(x2.length:Int)))-1)then(if wrap64 ((wrap64 ((x1.length:Int)+(x2.length:Int)))-1)≤wrap64 ((wrap64 ((x1.length:Int)+(x2.length:Int)))-1)then(if(wrap64 ((wrap64 ((x1.length:Int)+(x2.length:Int)))-1):Int).toNat≤11728124029610 then(gl0 x2 x1 (x1.length:Int) 0 x0 (List.replicate (wrap64 ((wrap64 ((x1.length:Int)+(x2.length:Int)))-1):Int).toNat ([]:List TQ)))else(none))else(none))else(none)))
theorem E3Q (s:A3E.ask.T):A3E.ev E0 (B3x c90 c91 c122 c165) (B4b gl0 gl1 gl2) s=B3L gl0 s.1.1 s.1.2.1 s.1.2.2.1:=by kernel_rfl
end
noncomputable def C5T:Sk:=⟨[(1, .pv (.li (.li (.ag (.pr (.ag (.pr .bo .st)) .st))))),(2, .pv (.ag (.li (.ag (.pr (.ag (.pr .bo .st)) .st))))),(4, .d (.li (.li (.ag (.pr (.ag (.pr .bo .st)) .st))))),(5, .d (.li (.li (.ag (.pr (.ag (.pr .bo .st)) .st))))),(6, .d (.it .i64))],[]⟩
noncomputable def C4h (gl0:(List (List TQ))→(List TQ)→(List (List TQ))→(List (List TQ))→Int→Option A2a):List (C7 A2a):=[⟨4,C5T,fun s=>gl0 s.1.1 s.1.2.1 s.1.2.2.1 s.1.2.2.2.1 s.1.2.2.2.2.1⟩]
noncomputable def C1a (c86:(List Int)→Option c8) (c122:(List (List TQ))→Option T6) (c126:(List (List TQ))→(List (List TQ))→Option A0o) (c127:(List TQ)→(List (List TQ))→(List (List TQ))→Option T3):List FE:=[B5C c86,A8S c122,C3F c126,C2p c127]
section
variable (gl0:(List (List TQ))→(List TQ)→(List (List TQ))→(List (List TQ))→Int→Option A2a) (c86:(List Int)→Option c8) (c122:(List (List TQ))→Option T6) (c126:(List (List TQ))→(List (List TQ))→Option A0o) (c127:(List TQ)→(List (List TQ))→(List (List TQ))→Option T3)
noncomputable def C5d (x1:(List (List TQ))) (x2:(List TQ)) (x4:(List (List TQ))) (x5:(List (List TQ))) (x6:Int):Option A2a:=if x6≥0 then((c127 x2 x4 x5).bind fun r1=>(if 0≤x6 then(if x6<(x1.length:Int)then((c122 ([C4 ([]:List TQ) x1 x6]:List (List TQ))).bind fun r2=>((c126 r1 r2).bind fun r3=>(gl0 x1 x2 r3 x5 (wrap64 (x6-1)))))else(none))else(none)))else(some x4)
theorem F6f (s0:C5 B1O.ask.bl) (s:C5T.T):B1O.po E0 (C1a c86 c122 c126 c127) (C4h gl0) s0 0 (C5T.mk' s)=C5d gl0 c122 c126 c127 s.1.1 s.1.2.1 s.1.2.2.1 s.1.2.2.2.1 s.1.2.2.2.2.1:=by kernel_rfl
noncomputable def C2F (x0:(List TQ)) (x1:(List (List TQ))) (x2:(List TQ)):Option A2a:=(c86 ([1]:List Int)).bind fun r1=>((c122 ([x0,r1]:List (List TQ))).bind fun r2=>(gl0 x1 x2 ([]:List (List TQ)) r2 (wrap64 ((x1.length:Int)-1))))
theorem F3Y (s:B1O.ask.T):B1O.ev E0 (C1a c86 c122 c126 c127) (C4h gl0) s=C2F gl0 c86 c122 s.1.1 s.1.2.1 s.1.2.2.1:=by kernel_rfl
end
noncomputable def D1G (c108:(List (List TQ))→Option i8) (c125:(List TQ)→(List (List TQ))→(List TQ)→Option A2a):List FE:=[A7n c108,D6t c125]
section
variable (c108:(List (List TQ))→Option i8) (c125:(List TQ)→(List (List TQ))→(List TQ)→Option A2a)
noncomputable def C3v (x0:((List TQ)×(List (List TQ))×(List TQ)×Unit)):Option B1i:=(c125 x0.1 x0.2.1 x0.2.2.1).bind fun r1=>((c108 r1).bind fun r2=>(B3 (r2) (some (([]:List (List TQ)),4)) (some (r1,0))))
theorem F6J (s:C0V.ask.T):C0V.ev E0 (D1G c108 c125) [] s=C3v c108 c125 s.1.1:=by kernel_rfl
end
noncomputable def D2e (c83:(List TQ)→(List (List (List TQ)))→Option Q4) (c111Shift:((List TQ)×(List (List TQ))×(List TQ)×Unit)→Option B1i) (c124:(List TQ)→(List TQ)→Option A6F):List FE:=[A5j c83,D2v c111Shift,C2h c124]
section
variable (c83:(List TQ)→(List (List (List TQ)))→Option Q4) (c111Shift:((List TQ)×(List (List TQ))×(List TQ)×Unit)→Option B1i) (c124:(List TQ)→(List TQ)→Option A6F)
noncomputable def B50 (x0:(List TQ)) (x1:(List (List TQ))) (x2:(List TQ)):Option R50:=(c83 x0 ([x1]:List (List (List TQ)))).bind fun r1=>(if r1≠0 then(some (([]:List (List TQ)),r1))else((c124 x0 x2).bind fun r2=>(if r2≠0 then(some (([]:List (List TQ)),r2))else((c111Shift (x2,x1,x0,())).bind fun r3=>(some (r3.1,r3.2))))))
theorem e50 (s:D50.ask.T):D50.ev E0 (D2e c83 c111Shift c124) [] s=B50 c83 c111Shift c124 s.1.1 s.1.2.1 s.1.2.2.1:=by kernel_rfl
end
noncomputable def D5q (c17:(List TQ)→(List (List TQ))→Option Q6) (c18:(List TQ)→(List TQ)→Option R18) (c22:(List Int)→Option R22) (c28:(List TQ)→(List (List TQ))→(List (List TQ))→Option R28) (c29:(List (List TQ))→(List (List TQ))→Option Z8) (c31:(List TQ)→(List (List TQ))→(List (List TQ))→Option R31) (c50:(List TQ)→(List (List TQ))→(List TQ)→Option R50):List FE:=[D7d c17,C4K c18,D6C c22,D3Q c28,B4N c29,D5S c31,D6Q c50]
section
variable (c17:(List TQ)→(List (List TQ))→Option Q6) (c18:(List TQ)→(List TQ)→Option R18) (c22:(List Int)→Option R22) (c28:(List TQ)→(List (List TQ))→(List (List TQ))→Option R28) (c29:(List (List TQ))→(List (List TQ))→Option Z8) (c31:(List TQ)→(List (List TQ))→(List (List TQ))→Option R31) (c50:(List TQ)→(List (List TQ))→(List TQ)→Option R50)
noncomputable def B16:Option R16:=(c22 ([(-2),0,1]:List Int)).bind fun r1=>((c22 ([0,1]:List Int)).bind fun r2=>((c22 ([1]:List Int)).bind fun r3=>((c22 ([(-2)]:List Int)).bind fun r4=>((c22 ([0,(-1)]:List Int)).bind fun r5=>((c28 r1 ([r4,([]:List TQ),r3]:List (List TQ)) ([r5,r3]:List (List TQ))).bind fun r6=>((c22 ([(-2)]:List Int)).bind fun r7=>((c22 ([2]:List Int)).bind fun r8=>((c22 ([0,(-2)]:List Int)).bind fun r9=>((c31 r1 ([r7,([]:List TQ),r3]:List (List TQ)) ([r8,r9,r3]:List (List TQ))).bind fun r10=>((c22 ([0,(-1)]:List Int)).bind fun r11=>((c17 r1 ([r11,r3]:List (List TQ))).bind fun r12=>((c17 r1 ([r2,([]:List TQ),r3]:List (List TQ))).bind fun r13=>((c17 r1 ([r3,r2]:List (List TQ))).bind fun r14=>((c50 r1 ([([]:List TQ),([]:List TQ),r3]:List (List TQ)) r2).bind fun r15=>(if wrap64 ((wrap64 ((wrap64 ((wrap64 ((wrap64 (r6.2.2+r10.2))+r12.2))+r13.2))+r14.2))+r15.2)≠0 then(some false)else(if(r6.2.1.length:Int)>0 then(some false)else((c29 r6.1 ([r2,r3]:List (List TQ))).bind fun r16=>(B3 ((!r16)) (some false) ((c22 ([0,(-1)]:List Int)).bind fun r17=>((c29 r10.1 ([r17,r3]:List (List TQ))).bind fun r18=>(B3 ((!r18)) (some false) ((c22 ([(-2),0,1]:List Int)).bind fun r19=>((c18 r12.1 r19).bind fun r20=>(B3 (r20) ((c22 ([(-2),0,0,0,1]:List Int)).bind fun r21=>((c18 r13.1 r21).bind fun r22=>(B3 (r22) ((c22 ([1,0,(-2)]:List Int)).bind fun r23=>((c18 r14.1 r23).bind fun r24=>(B3 (r24) ((c22 ([2]:List Int)).bind fun r25=>((c22 ([0,2]:List Int)).bind fun r26=>((c29 r15.1 ([r25,r26,r3]:List (List TQ))).bind fun r27=>(some r27)))) (some false)))) (some false)))) (some false)))))))))))))))))))))))))
theorem e16 (s:D16.ask.T):D16.ev E0 (D5q c17 c18 c22 c28 c29 c31 c50) [] s=B16 c17 c18 c22 c28 c29 c31 c50:=by kernel_rfl
end
noncomputable def C3E:Sk:=⟨[(5, .d (.li (.it .i64))),(6, .d (.it .i64)),(7, .d (.it .i64))],[]⟩
noncomputable def C2f (gl0:(List Int)→Int→Int→Option R34):List (C7 R34):=[⟨2,C3E,fun s=>gl0 s.1.1 s.1.2.1 s.1.2.2.1⟩]
section
variable (gl0:(List Int)→Int→Int→Option R34)
noncomputable def A7m (x5:(List Int)) (x6:Int) (x7:Int):Option R34:=if x7<x6 then(if 0≤x7 then(if x7<(x5.length:Int)then(if rd x5 x7≠0 then(some (rd x5 x7))else(gl0 x5 x6 (wrap64 (x7+1))))else(none))else(none))else(some 0)
theorem F1F (s0:C5 D34.ask.bl) (s:C3E.T):D34.po E0 [] (C2f gl0) s0 0 (C3E.mk' s)=A7m gl0 s.1.1 s.1.2.1 s.1.2.2.1:=by kernel_rfl
noncomputable def B34 (x0:(List Int)):Option R34:=gl0 x0 (x0.length:Int) 0
theorem e34 (s:D34.ask.T):D34.ev E0 [] (C2f gl0) s=B34 gl0 s.1.1:=by kernel_rfl
end
noncomputable def C2K:Sk:=⟨[(6, .d (.li (.ag (.pr (.ag (.pr .bo .st)) .st)))),(7, .d (.it .i64)),(8, .d (.it .i64))],[]⟩
noncomputable def C3U (gl0:(List TQ)→Int→Int→Option A2V):List (C7 A2V):=[⟨2,C2K,fun s=>gl0 s.1.1 s.1.2.1 s.1.2.2.1⟩]
noncomputable def C8k (c135:TQ→Option A6d):List FE:=[C8E c135]
section
variable (gl0:(List TQ)→Int→Int→Option A2V) (c135:TQ→Option A6d)
noncomputable def A7Z (x6:(List TQ)) (x7:Int) (x8:Int):Option A2V:=if x8<x7 then(if 0≤x8 then(if x8<(x6.length:Int)then((c135 (C4 ((false,(⟨#[]⟩:ByteArray)),(⟨#[]⟩:ByteArray)) x6 x8)).bind fun r1=>(if r1≠0 then(some r1)else(gl0 x6 x7 (wrap64 (x8+1)))))else(none))else(none))else(some 0)
theorem F6I (s0:C5 B2f.ask.bl) (s:C2K.T):B2f.po E0 (C8k c135) (C3U gl0) s0 0 (C2K.mk' s)=A7Z gl0 c135 s.1.1 s.1.2.1 s.1.2.2.1:=by kernel_rfl
noncomputable def B3K (x0:(List TQ)):Option A2V:=gl0 x0 (x0.length:Int) 0
theorem F2p (s:B2f.ask.T):B2f.ev E0 (C8k c135) (C3U gl0) s=B3K gl0 s.1.1:=by kernel_rfl
end
noncomputable def C8i:Sk:=⟨[(9, .d (.li (.li (.ag (.pr (.ag (.pr .bo .st)) .st))))),(10, .d (.it .i64)),(11, .d (.it .i64))],[]⟩
noncomputable def C9Z (gl0:(List (List TQ))→Int→Int→Option m7):List (C7 m7):=[⟨4,C8i,fun s=>gl0 s.1.1 s.1.2.1 s.1.2.2.1⟩]
noncomputable def C3i (c117:(List TQ)→Option A2V):List FE:=[D8n c117]
section
variable (gl0:(List (List TQ))→Int→Int→Option m7) (c117:(List TQ)→Option A2V)
noncomputable def A7g (x9:(List (List TQ))) (x10:Int) (x11:Int):Option m7:=if x11<x10 then(if 0≤x11 then(if x11<(x9.length:Int)then((c117 (C4 ([]:List TQ) x9 x11)).bind fun r1=>(if r1≠0 then(some r1)else(gl0 x9 x10 (wrap64 (x11+1)))))else(none))else(none))else(some 0)
theorem F6Q (s0:C5 D44.ask.bl) (s:C8i.T):D44.po E0 (C3i c117) (C9Z gl0) s0 0 (C8i.mk' s)=A7g gl0 c117 s.1.1 s.1.2.1 s.1.2.2.1:=by kernel_rfl
noncomputable def B44 (x0:(List (List TQ))):Option m7:=if(x0.length:Int)>65 then(some 4)else(gl0 x0 (x0.length:Int) 0)
theorem e44 (s:D44.ask.T):D44.ev E0 (C3i c117) (C9Z gl0) s=B44 gl0 s.1.1:=by kernel_rfl
end
noncomputable def A4R (x0:TI):Option A6G:=some (x0,(⟨#[1]⟩:ByteArray))
theorem F4O (s:B8I.ask.T):B8I.ev E0 [] [] s=A4R s.1.1:=by kernel_rfl
noncomputable def C7J (x0:Bool) (x1:ByteArray):Option A3G:=B3 (x0) (some ((!(E4 x1 (⟨#[]⟩:ByteArray))),x1)) (some (false,x1))
theorem D9q (s:B9e.ask.T):B9e.ev E0 [] [] s=C7J s.1.1 s.1.2.1:=by kernel_rfl
noncomputable def D0Y:Sk:=⟨[(5, .f (.a (.ref 5))),(6, .f (.a (.ref 6))),(7, .f (.a (.ref 7))),(8, .d (.it .u64)),(9, .d (.it .i64))],[(5, .own (.it .u64) true),(6, .own (.it .u64) true),(7, .own (.it .u64) true)]⟩
noncomputable def C6u (gl0:Int→Int→(List Int)→(List Int)→(List Int)→Option A2q):List (C7 A2q):=[⟨5,D0Y,fun s=>gl0 s.1.1 s.1.2.1 s.2.1 s.2.2.1 s.2.2.2.1⟩]
noncomputable def C7P (c221:(List Int)→Option Q8) (c229:ByteArray→Option T4):List FE:=[A9e c221,B3a c229]
section
variable (gl0:Int→Int→(List Int)→(List Int)→(List Int)→Option A2q) (c221:(List Int)→Option Q8) (c229:ByteArray→Option T4)
noncomputable def C2H (x8:Int) (x9:Int) (x5:(List Int)) (x6:(List Int)) (x7:(List Int)):Option A2q:=if x9<(x5.length:Int)then(if x9<(x5.length:Int)then(if 0≤x9 then(if x9<(x5.length:Int)then(if x9<(x6.length:Int)then(if 0≤x9 then(if x9<(x6.length:Int)then(if(x7.length+1)*8≤140737488355328 then(if(0:Int)≤32 then(gl0 ((IntKind.u64.wrap ((IntKind.u64.wrap (x8+(rd x5 x9)))+(rd x6 x9)))/4294967296) (wrap64 (x9+1)) x5 x6 (x7++([Go.bits .and .u64 (IntKind.u64.wrap ((IntKind.u64.wrap (x8+(rd x5 x9)))+(rd x6 x9))) 4294967295]:List Int)))else(none))else(none))else(none))else(none))else(if(x7.length+1)*8≤140737488355328 then(if(0:Int)≤32 then(gl0 ((IntKind.u64.wrap (x8+(rd x5 x9)))/4294967296) (wrap64 (x9+1)) x5 x6 (x7++([Go.bits .and .u64 (IntKind.u64.wrap (x8+(rd x5 x9))) 4294967295]:List Int)))else(none))else(none)))else(none))else(none))else(if x9<(x6.length:Int)then(if 0≤x9 then(if x9<(x6.length:Int)then(if(x7.length+1)*8≤140737488355328 then(if(0:Int)≤32 then(gl0 ((IntKind.u64.wrap (x8+(rd x6 x9)))/4294967296) (wrap64 (x9+1)) x5 x6 (x7++([Go.bits .and .u64 (IntKind.u64.wrap (x8+(rd x6 x9))) 4294967295]:List Int)))else(none))else(none))else(none))else(none))else(if(x7.length+1)*8≤140737488355328 then(if(0:Int)≤32 then(gl0 (x8/4294967296) (wrap64 (x9+1)) x5 x6 (x7++([Go.bits .and .u64 x8 4294967295]:List Int)))else(none))else(none))))else(if x9<(x6.length:Int)then(if x9<(x5.length:Int)then(if 0≤x9 then(if x9<(x5.length:Int)then(if x9<(x6.length:Int)then(if 0≤x9 then(if x9<(x6.length:Int)then(if(x7.length+1)*8≤140737488355328 then(if(0:Int)≤32 then(gl0 ((IntKind.u64.wrap ((IntKind.u64.wrap (x8+(rd x5 x9)))+(rd x6 x9)))/4294967296) (wrap64 (x9+1)) x5 x6 (x7++([Go.bits .and .u64 (IntKind.u64.wrap ((IntKind.u64.wrap (x8+(rd x5 x9)))+(rd x6 x9))) 4294967295]:List Int)))else(none))else(none))else(none))else(none))else(if(x7.length+1)*8≤140737488355328 then(if(0:Int)≤32 then(gl0 ((IntKind.u64.wrap (x8+(rd x5 x9)))/4294967296) (wrap64 (x9+1)) x5 x6 (x7++([Go.bits .and .u64 (IntKind.u64.wrap (x8+(rd x5 x9))) 4294967295]:List Int)))else(none))else(none)))else(none))else(none))else(if x9<(x6.length:Int)then(if 0≤x9 then(if x9<(x6.length:Int)then(if(x7.length+1)*8≤140737488355328 then(if(0:Int)≤32 then(gl0 ((IntKind.u64.wrap (x8+(rd x6 x9)))/4294967296) (wrap64 (x9+1)) x5 x6 (x7++([Go.bits .and .u64 (IntKind.u64.wrap (x8+(rd x6 x9))) 4294967295]:List Int)))else(none))else(none))else(none))else(none))else(if(x7.length+1)*8≤140737488355328 then(if(0:Int)≤32 then(gl0 (x8/4294967296) (wrap64 (x9+1)) x5 x6 (x7++([Go.bits .and .u64 x8 4294967295]:List Int)))else(none))else(none))))else(if x8>0 then(if x9<(x5.length:Int)then(if 0≤x9 then(if x9<(x5.length:Int)then(if x9<(x6.length:Int)then(if 0≤x9 then(if x9<(x6.length:Int)then(if(x7.length+1)*8≤140737488355328 then(if(0:Int)≤32 then(gl0 ((IntKind.u64.wrap ((IntKind.u64.wrap (x8+(rd x5 x9)))+(rd x6 x9)))/4294967296) (wrap64 (x9+1)) x5 x6 (x7++([Go.bits .and .u64 (IntKind.u64.wrap ((IntKind.u64.wrap (x8+(rd x5 x9)))+(rd x6 x9))) 4294967295]:List Int)))else(none))else(none))else(none))else(none))else(if(x7.length+1)*8≤140737488355328 then(if(0:Int)≤32 then(gl0 ((IntKind.u64.wrap (x8+(rd x5 x9)))/4294967296) (wrap64 (x9+1)) x5 x6 (x7++([Go.bits .and .u64 (IntKind.u64.wrap (x8+(rd x5 x9))) 4294967295]:List Int)))else(none))else(none)))else(none))else(none))else(if x9<(x6.length:Int)then(if 0≤x9 then(if x9<(x6.length:Int)then(if(x7.length+1)*8≤140737488355328 then(if(0:Int)≤32 then(gl0 ((IntKind.u64.wrap (x8+(rd x6 x9)))/4294967296) (wrap64 (x9+1)) x5 x6 (x7++([Go.bits .and .u64 (IntKind.u64.wrap (x8+(rd x6 x9))) 4294967295]:List Int)))else(none))else(none))else(none))else(none))else(if(x7.length+1)*8≤140737488355328 then(if(0:Int)≤32 then(gl0 (x8/4294967296) (wrap64 (x9+1)) x5 x6 (x7++([Go.bits .and .u64 x8 4294967295]:List Int)))else(none))else(none))))else((c221 x7).bind fun r1=>(some r1))))
theorem F3c (s0:C5 B2d.ask.bl) (s:D0Y.T):B2d.po E0 (C7P c221 c229) (C6u gl0) s0 0 (D0Y.mk' s)=C2H gl0 c221 s.1.1 s.1.2.1 s.2.1 s.2.2.1 s.2.2.2.1:=by kernel_rfl
noncomputable def C5h (x0:ByteArray) (x1:ByteArray):Option A2q:=(c229 x0).bind fun r1=>((c229 x1).bind fun r2=>(gl0 0 0 r1 r2 ([]:List Int)))
theorem F0n (s:B2d.ask.T):B2d.ev E0 (C7P c221 c229) (C6u gl0) s=C5h gl0 c229 s.1.1 s.1.2.1:=by kernel_rfl
end
noncomputable def D0E (x0:ByteArray) (x1:ByteArray):Option A6N:=if(x0.size:Int)<(x1.size:Int)then(some (-1))else(if(x0.size:Int)=(x1.size:Int)then(B3 ((Op.bytesLess x0.toList x1.toList)) (some (-1)) (B3 ((E4 x0 x1)) (some 0) (some 1)))else(B3 ((E4 x0 x1)) (some 0) (some 1)))
theorem E6N (s:C0l.ask.T):C0l.ev E0 [] [] s=D0E s.1.1 s.1.2.1:=by kernel_rfl
noncomputable def C2M:Sk:=⟨[(5, .f (.a (.ref 5))),(6, .f (.a (.ref 6))),(7, .d (.it .u64)),(8, .d (.it .i64))],[(5, .own (.it .u64) true),(6, .own (.it .u64) true)]⟩
noncomputable def C7M (gl0:Int→Int→(List Int)→(List Int)→Option A2B):List (C7 A2B):=[⟨6,C2M,fun s=>gl0 s.1.1 s.1.2.1 s.2.1 s.2.2.1⟩]
noncomputable def D0P (c200:ByteArray→ByteArray→Option A6N) (c221:(List Int)→Option Q8) (c229:ByteArray→Option T4):List FE:=[C2j c200,A9e c221,B3a c229]
section
variable (gl0:Int→Int→(List Int)→(List Int)→Option A2B) (c200:ByteArray→ByteArray→Option A6N) (c221:(List Int)→Option Q8) (c229:ByteArray→Option T4)
noncomputable def C4M (x7:Int) (x8:Int) (x5:(List Int)) (x6:(List Int)):Option A2B:=if x8<(x5.length:Int)then(if x8<(x6.length:Int)then(if 0≤x8 then(if x8<(x6.length:Int)then(if 0≤x8 then(if x8<(x5.length:Int)then(if rd x5 x8<IntKind.u64.wrap (x7+(rd x6 x8))then(if 0≤x8 then(if x8<(x5.length:Int)then(if 0≤x8 then(if x8<(x5.length:Int)then(if 0≤x8 then(if x8<((x5.set (x8:Int).toNat (IntKind.u64.wrap ((rd x5 x8)+4294967296))).length:Int)then(if 0≤x8 then(if x8<((x5.set (x8:Int).toNat (IntKind.u64.wrap ((rd x5 x8)+4294967296))).length:Int)then(gl0 1 (wrap64 (x8+1)) ((x5.set (x8:Int).toNat (IntKind.u64.wrap ((rd x5 x8)+4294967296))).set (x8:Int).toNat (IntKind.u64.wrap ((rd (x5.set (x8:Int).toNat (IntKind.u64.wrap ((rd x5 x8)+4294967296))) x8)-(IntKind.u64.wrap (x7+(rd x6 x8)))))) x6)else(none))else(none))else(none))else(none))else(none))else(none))else(none))else(none))else(if 0≤x8 then(if x8<(x5.length:Int)then(if 0≤x8 then(if x8<(x5.length:Int)then(gl0 0 (wrap64 (x8+1)) (x5.set (x8:Int).toNat (IntKind.u64.wrap ((rd x5 x8)-(IntKind.u64.wrap (x7+(rd x6 x8)))))) x6)else(none))else(none))else(none))else(none)))else(none))else(none))else(none))else(none))else(if 0≤x8 then(if x8<(x5.length:Int)then(if rd x5 x8<x7 then(if 0≤x8 then(if x8<(x5.length:Int)then(if 0≤x8 then(if x8<(x5.length:Int)then(if 0≤x8 then(if x8<((x5.set (x8:Int).toNat (IntKind.u64.wrap ((rd x5 x8)+4294967296))).length:Int)then(if 0≤x8 then(if x8<((x5.set (x8:Int).toNat (IntKind.u64.wrap ((rd x5 x8)+4294967296))).length:Int)then(gl0 1 (wrap64 (x8+1)) ((x5.set (x8:Int).toNat (IntKind.u64.wrap ((rd x5 x8)+4294967296))).set (x8:Int).toNat (IntKind.u64.wrap ((rd (x5.set (x8:Int).toNat (IntKind.u64.wrap ((rd x5 x8)+4294967296))) x8)-x7))) x6)else(none))else(none))else(none))else(none))else(none))else(none))else(none))else(none))else(if 0≤x8 then(if x8<(x5.length:Int)then(if 0≤x8 then(if x8<(x5.length:Int)then(gl0 0 (wrap64 (x8+1)) (x5.set (x8:Int).toNat (IntKind.u64.wrap ((rd x5 x8)-x7))) x6)else(none))else(none))else(none))else(none)))else(none))else(none)))else((c221 x5).bind fun r1=>(some r1))
theorem E9p (s0:C5 A9h.ask.bl) (s:C2M.T):A9h.po E0 (D0P c200 c221 c229) (C7M gl0) s0 0 (C2M.mk' s)=C4M gl0 c221 s.1.1 s.1.2.1 s.2.1 s.2.2.1:=by kernel_rfl
noncomputable def C5Q (x0:ByteArray) (x1:ByteArray):Option A2B:=(c200 x0 x1).bind fun r1=>(if r1<0 then(some (⟨#[]⟩:ByteArray))else((c229 x0).bind fun r2=>((c229 x1).bind fun r3=>(gl0 0 0 r2 r3))))
theorem E8Z (s:A9h.ask.T):A9h.ev E0 (D0P c200 c221 c229) (C7M gl0) s=C5Q gl0 c200 c229 s.1.1 s.1.2.1:=by kernel_rfl
end
noncomputable def D2T (c198:Bool→ByteArray→Option A3G) (c199:ByteArray→ByteArray→Option A2q) (c200:ByteArray→ByteArray→Option A6N) (c201:ByteArray→ByteArray→Option A2B):List FE:=[B9a c198,D1a c199,C2j c200,D8y c201]
section
variable (c198:Bool→ByteArray→Option A3G) (c199:ByteArray→ByteArray→Option A2q) (c200:ByteArray→ByteArray→Option A6N) (c201:ByteArray→ByteArray→Option A2B)
noncomputable def C9U (x0:TI) (x1:TI):Option A9q:=B3 ((x0.1==x1.1)) ((c199 x0.2 x1.2).bind fun r1=>((c198 x0.1 r1).bind fun r2=>(some (r2.1,r2.2)))) ((c200 x0.2 x1.2).bind fun r3=>(if r3≥0 then((c201 x0.2 x1.2).bind fun r4=>((c198 x0.1 r4).bind fun r5=>(some (r5.1,r5.2))))else((c201 x1.2 x0.2).bind fun r6=>((c198 x1.1 r6).bind fun r7=>(some (r7.1,r7.2))))))
theorem E3A (s:B9m.ask.T):B9m.ev E0 (D2T c198 c199 c200 c201) [] s=C9U c198 c199 c200 c201 s.1.1 s.1.2.1:=by kernel_rfl
end
noncomputable def C8J:Sk:=⟨[(5, .f (.a (.ref 5))),(6, .f (.a (.ref 6))),(7, .f (.a (.ref 7))),(8, .d (.it .i64))],[(5, .own (.it .u64) true),(6, .own (.it .u64) true),(7, .own (.it .u64) true)]⟩
noncomputable def C8R:Sk:=⟨[(5, .f (.a (.ref 5))),(6, .f (.a (.ref 6))),(7, .f (.a (.ref 7))),(8, .d (.it .i64)),(9, .d (.it .u64)),(10, .d (.it .i64))],[(5, .own (.it .u64) true),(6, .own (.it .u64) true),(7, .own (.it .u64) true)]⟩
noncomputable def B6a (gl0:Int→(List Int)→(List Int)→(List Int)→Option q9) (gl1:Int→Int→Int→(List Int)→(List Int)→(List Int)→Option q9):List (C7 q9):=[⟨4,C8J,fun s=>gl0 s.1.1 s.2.1 s.2.2.1 s.2.2.2.1⟩,⟨8,C8R,fun s=>gl1 s.1.1 s.1.2.1 s.1.2.2.1 s.2.1 s.2.2.1 s.2.2.2.1⟩]
noncomputable def B6j (c221:(List Int)→Option Q8) (c229:ByteArray→Option T4):List FE:=[A9e c221,B3a c229]
section
variable (gl0:Int→(List Int)→(List Int)→(List Int)→Option q9) (gl1:Int→Int→Int→(List Int)→(List Int)→(List Int)→Option q9) (c221:(List Int)→Option Q8) (c229:ByteArray→Option T4)
noncomputable def D0q (x8:Int) (x5:(List Int)) (x6:(List Int)) (x7:(List Int)):Option q9:=if x8<(x5.length:Int)then(gl1 x8 0 0 x5 x6 x7)else((c221 x7).bind fun r1=>(some r1))
theorem F1g (s0:C5 A6W.ask.bl) (s:C8J.T):A6W.po E0 (B6j c221 c229) (B6a gl0 gl1) s0 0 (C8J.mk' s)=D0q gl1 c221 s.1.1 s.2.1 s.2.2.1 s.2.2.2.1:=by kernel_rfl
noncomputable def C7n (x8:Int) (x9:Int) (x10:Int) (x5:(List Int)) (x6:(List Int)) (x7:(List Int)):Option q9:=if x10<(x6.length:Int)then(if 0≤wrap64 (x8+x10)then(if wrap64 (x8+x10)<(x7.length:Int)then(if 0≤x8 then(if x8<(x5.length:Int)then(if 0≤x10 then(if x10<(x6.length:Int)then(if 0≤wrap64 (x8+x10)then(if wrap64 (x8+x10)<(x7.length:Int)then(if(0:Int)≤32 then(gl1 x8 ((IntKind.u64.wrap ((IntKind.u64.wrap ((rd x7 (wrap64 (x8+x10)))+(IntKind.u64.wrap ((rd x5 x8)*(rd x6 x10)))))+x9))/4294967296) (wrap64 (x10+1)) x5 x6 (x7.set (wrap64 (x8+x10):Int).toNat (Go.bits .and .u64 (IntKind.u64.wrap ((IntKind.u64.wrap ((rd x7 (wrap64 (x8+x10)))+(IntKind.u64.wrap ((rd x5 x8)*(rd x6 x10)))))+x9)) 4294967295)))else(none))else(none))else(none))else(none))else(none))else(none))else(none))else(none))else(none))else(if 0≤wrap64 (x8+(x6.length:Int))then(if wrap64 (x8+(x6.length:Int))<(x7.length:Int)then(gl0 (wrap64 (x8+1)) x5 x6 (x7.set (wrap64 (x8+(x6.length:Int)):Int).toNat x9))else(none))else(none))
theorem F0Z (s0:C5 A6W.ask.bl) (s:C8R.T):A6W.po E0 (B6j c221 c229) (B6a gl0 gl1) s0 1 (C8R.mk' s)=C7n gl0 gl1 s.1.1 s.1.2.1 s.1.2.2.1 s.2.1 s.2.2.1 s.2.2.2.1:=by kernel_rfl
noncomputable def C5z (x0:ByteArray) (x1:ByteArray):Option q9:=(c229 x0).bind fun r1=>((c229 x1).bind fun r2=>(if 0≤wrap64 ((r1.length:Int)+(r2.length:Int))then(if wrap64 ((r1.length:Int)+(r2.length:Int))≤wrap64 ((r1.length:Int)+(r2.length:Int))then(if(wrap64 ((r1.length:Int)+(r2.length:Int)):Int).toNat≤35184372088832 then(gl0 0 r1 r2 (List.replicate (wrap64 ((r1.length:Int)+(r2.length:Int)):Int).toNat (0:Int)))else(none))else(none))else(none)))
theorem E4A (s:A6W.ask.T):A6W.ev E0 (B6j c221 c229) (B6a gl0 gl1) s=C5z gl0 c229 s.1.1 s.1.2.1:=by kernel_rfl
end
noncomputable def D9N (c198:Bool→ByteArray→Option A3G) (c202:ByteArray→ByteArray→Option q9):List FE:=[B9a c198,D2U c202]
section
variable (c198:Bool→ByteArray→Option A3G) (c202:ByteArray→ByteArray→Option q9)
noncomputable def D0L (x0:TI) (x1:TI):Option A5m:=(c202 x0.2 x1.2).bind fun r1=>((c198 (!(x0.1==x1.1)) r1).bind fun r2=>(some (r2.1,r2.2)))
theorem E2T (s:C0E.ask.T):C0E.ev E0 (D9N c198 c202) [] s=D0L c198 c202 s.1.1 s.1.2.1:=by kernel_rfl
end
noncomputable def A4S (x0:TQ):Option A6P:=some (false,x0.2)
theorem F3h (s:B6l.ask.T):B6l.ev E0 [] [] s=A4S s.1.1:=by kernel_rfl
noncomputable def D3W (c180:ByteArray→ByteArray→Option A0H) (c198:Bool→ByteArray→Option A3G) (c203:ByteArray→ByteArray→Option T5):List FE:=[C1t c180,B9a c198,C9i c203]
section
variable (c180:ByteArray→ByteArray→Option A0H) (c198:Bool→ByteArray→Option A3G) (c203:ByteArray→ByteArray→Option T5)
noncomputable def B5u (x0:TI) (x1:TI):Option A5h:=B3 ((E4 x1.2 (⟨#[]⟩:ByteArray))) (some ((false,(⟨#[]⟩:ByteArray)),(⟨#[1]⟩:ByteArray))) ((c180 x0.2 x1.2).bind fun r1=>((c203 x0.2 r1).bind fun r2=>((c203 x1.2 r1).bind fun r3=>((c198 (!(x0.1==x1.1)) r2.1).bind fun r4=>(some ((r4.1,r4.2),r3.1))))))
theorem F4G (s:B6d.ask.T):B6d.ev E0 (D3W c180 c198 c203) [] s=B5u c180 c198 c203 s.1.1 s.1.2.1:=by kernel_rfl
end
noncomputable def D1Y (c159:TI→Option A6G) (c160:TI→TI→Option A9q) (c161:TI→TI→Option A5m) (c162:TQ→Option A6P) (c163:TI→TI→Option A5h):List FE:=[D0N c159,D8A c160,C5s c161,C9T c162,D0Z c163]
section
variable (c159:TI→Option A6G) (c160:TI→TI→Option A9q) (c161:TI→TI→Option A5m) (c162:TQ→Option A6P) (c163:TI→TI→Option A5h)
noncomputable def A9s (x0:TQ) (x1:TQ):Option A5G:=B3 ((E4 x0.2 (⟨#[1]⟩:ByteArray))) (B3 ((E4 x1.2 (⟨#[1]⟩:ByteArray))) ((c160 x0.1 x1.1).bind fun r1=>((c159 (r1.1,r1.2)).bind fun r2=>(some (r2.1,r2.2)))) ((c162 x1).bind fun r3=>((c161 x0.1 (r3.1,r3.2)).bind fun r4=>((c162 x0).bind fun r5=>((c161 x1.1 (r5.1,r5.2)).bind fun r6=>((c160 (r4.1,r4.2) (r6.1,r6.2)).bind fun r7=>((c162 x0).bind fun r8=>((c162 x1).bind fun r9=>((c161 (r8.1,r8.2) (r9.1,r9.2)).bind fun r10=>((c163 (r7.1,r7.2) (r10.1,r10.2)).bind fun r11=>(some (r11.1,r11.2)))))))))))) ((c162 x1).bind fun r12=>((c161 x0.1 (r12.1,r12.2)).bind fun r13=>((c162 x0).bind fun r14=>((c161 x1.1 (r14.1,r14.2)).bind fun r15=>((c160 (r13.1,r13.2) (r15.1,r15.2)).bind fun r16=>((c162 x0).bind fun r17=>((c162 x1).bind fun r18=>((c161 (r17.1,r17.2) (r18.1,r18.2)).bind fun r19=>((c163 (r16.1,r16.2) (r19.1,r19.2)).bind fun r20=>(some (r20.1,r20.2)))))))))))
theorem E8d (s:C0U.ask.T):C0U.ev E0 (D1Y c159 c160 c161 c162 c163) [] s=A9s c159 c160 c161 c162 c163 s.1.1 s.1.2.1:=by kernel_rfl
end
noncomputable def D3P (c81:Int→Option Y4):List FE:=[A6D c81]
section
variable (c81:Int→Option Y4)
noncomputable def B4l (x0:(List TQ)) (x1:Int):Option A7b:=if x1<(x0.length:Int)then(if 0≤x1 then(if x1<(x0.length:Int)then(some ((C4 ((false,(⟨#[]⟩:ByteArray)),(⟨#[]⟩:ByteArray)) x0 x1).1,(C4 ((false,(⟨#[]⟩:ByteArray)),(⟨#[]⟩:ByteArray)) x0 x1).2))else(none))else(none))else((c81 0).bind fun r1=>(some (r1.1,r1.2)))
theorem F5O (s:C0H.ask.T):C0H.ev E0 (D3P c81) [] s=B4l c81 s.1.1 s.1.2.1:=by kernel_rfl
end
noncomputable def C4O:Sk:=⟨[(0, .d (.li (.ag (.pr (.ag (.pr .bo .st)) .st)))),(1, .d (.li (.ag (.pr (.ag (.pr .bo .st)) .st)))),(5, .f (.a (.ref 5))),(6, .d (.it .i64))],[(5, .own (.ag (.pr (.ag (.pr .bo .st)) .st)) true)]⟩
noncomputable def C2o (gl0:(List TQ)→(List TQ)→Int→(List TQ)→Option X3):List (C7 X3):=[⟨3,C4O,fun s=>gl0 s.1.1 s.1.2.1 s.1.2.2.1 s.2.1⟩]
noncomputable def D0B (c48:(List TQ)→Option S4) (c101:TQ→TQ→Option A5G) (c102:(List TQ)→Int→Option A7b):List FE:=[A8z c48,C6G c101,D1V c102]
section
variable (gl0:(List TQ)→(List TQ)→Int→(List TQ)→Option X3) (c48:(List TQ)→Option S4) (c101:TQ→TQ→Option A5G) (c102:(List TQ)→Int→Option A7b)
end
end Go.Proofs.YtijohnkgomcdbaaGreatV
