/- Part of the proof of the statement FieldpolyValues: lemmas on the model's steps, Lean functions that say what the program's functions compute, and proofs that the calls do just that. No hypothesis is added. -/
import Derived.Test.YtijohnkgomcdbaaGreatKFieldpolyValues3
set_option linter.all false
set_option maxRecDepth 100000
namespace Go.Proofs.YtijohnkgomcdbaaGreatV
open Go Go.RowKit YtijohnkgomcdbaaGreatE YtijohnkgomcdbaaGreatW.PrintWords YtijohnkgomcdbaaGreatW.PrintLast YtijohnkgomcdbaaGreatW.PrintMore
noncomputable def D69:FD:=⟨69,Tryz.f69,34,⟨[(4,[(0, .any),(9, .any),(10, .any),(11, .any)])],[],[]⟩,⟨[(0, .d (.li tQ))],[]⟩,⟨[(0, .d (.it .i64))],[]⟩,[.d (.it .i64)],v9,fun o=>((o,()),()),fun s=>s.1.1⟩
noncomputable def C1D (F:TP→Option v9):FE:=D69.fe fun s=>F s.1.1
abbrev R70:Type:=Bool
noncomputable def D70:FD:=⟨70,Tryz.f70,35,⟨[(4,[(17, .any),(18, .any),(19, .any)])],[],[]⟩,⟨[(0, .d (.li tQ)),(1, .d (.it .i64))],[]⟩,⟨[(0, .d .bo)],[]⟩,[.d .bo],R70,fun o=>((o,()),()),fun s=>s.1.1⟩
noncomputable def D5N (F:TP→Int→Option R70):FE:=D70.fe fun s=>F s.1.1 s.1.2.1
abbrev R79:Type:=Bool
noncomputable def D79:FD:=⟨79,Tryz.f79,31,⟨[(4,[(19, .any),(20, .any),(21, .any)])],[],[]⟩,⟨[(0, .d (.ag (.li tQ))),(1, .d (.it .i64))],[]⟩,⟨[(0, .d .bo)],[]⟩,[.d .bo],R79,fun o=>((o,()),()),fun s=>s.1.1⟩
noncomputable def C1g (F:TP→Int→Option R79):FE:=D79.fe fun s=>F s.1.1 s.1.2.1
abbrev R80:Type:=TQ
noncomputable def D80:FD:=⟨80,Tryz.f80,13,⟨[],[],[]⟩,⟨[(0, .d (.li tQ))],[]⟩,⟨[(0, .d tQ)],[]⟩,[.d tQ],R80,fun o=>(((o.1,o.2),()),()),fun s=>(s.1.1.1,s.1.1.2)⟩
noncomputable def C3A (F:TP→Option R80):FE:=D80.fe fun s=>F s.1.1
abbrev Z5:Type:=TQ
noncomputable def D81:FD:=⟨81,Tryz.f81,6,⟨[],[],[]⟩,⟨[(0, .d (.it .i64))],[]⟩,⟨[(0, .d tQ)],[]⟩,[.d tQ],Z5,fun o=>(((o.1,o.2),()),()),fun s=>(s.1.1.1,s.1.1.2)⟩
noncomputable def A5y (F:Int→Option Z5):FE:=D81.fe fun s=>F s.1.1
abbrev R82:Type:=Bool
noncomputable def D82:FD:=⟨82,Tryz.f82,6,⟨[],[],[]⟩,⟨[(0, .d tQ)],[]⟩,⟨[(0, .d .bo)],[]⟩,[.d .bo],R82,fun o=>((o,()),()),fun s=>s.1.1⟩
noncomputable def D7G (F:TQ→Option R82):FE:=D82.fe fun s=>F s.1.1
abbrev U2:Type:=Int
noncomputable def D83:FD:=⟨83,Tryz.f83,27,⟨[(5,[(2, .any),(14, .any),(15, .any),(16, .any)])],[],[]⟩,⟨[(0, .d (.ag (.li tQ))),(1, .d (.li (.li (.li tQ))))],[]⟩,⟨[(0, .d (.it .i64))],[]⟩,[.d (.it .i64)],U2,fun o=>((o,()),()),fun s=>s.1.1⟩
noncomputable def A9n (F:TP→(List TF)→Option U2):FE:=D83.fe fun s=>F s.1.1 s.1.2.1
abbrev R84:Type:=TQ
noncomputable def D84:FD:=⟨84,Tryz.f84,70,⟨[(2,[(0, .any),(1, .any),(4, .any),(5, .any)])],[],[]⟩,⟨[(0, .d (.li tQ)),(1, .d (.li tQ))],[]⟩,⟨[(0, .d tQ)],[]⟩,[.d tQ],R84,fun o=>(((o.1,o.2),()),()),fun s=>(s.1.1.1,s.1.1.2)⟩
noncomputable def D2i (F:TP→TP→Option R84):FE:=D84.fe fun s=>F s.1.1 s.1.2.1
abbrev R85:Type:=TP
noncomputable def D85:FD:=⟨85,Tryz.f85,27,⟨[(3,[(1, .any),(2, .any),(3, .any),(7, .val (.li tQ)),(8, .any)])],[],[]⟩,⟨[(0, .d (.ag (.li tQ))),(1, .d (.li (.li tQ))),(2, .d (.li tQ))],[]⟩,⟨[(0, .d (.li tQ))],[]⟩,[.d (.li tQ)],R85,fun o=>((o,()),()),fun s=>s.1.1⟩
noncomputable def C2K (F:TP→TF→TP→Option R85):FE:=D85.fe fun s=>F s.1.1 s.1.2.1 s.1.2.2.1
abbrev d9:Type:=TP
noncomputable def D86:FD:=⟨86,Tryz.f86,24,⟨[(3,[(3, .any),(9, .any),(10, .any),(11, .any)])],[],[]⟩,⟨[(0, .d (.li (.it .i64)))],[]⟩,⟨[(0, .d (.li tQ))],[]⟩,[.d (.li tQ)],d9,fun o=>((o,()),()),fun s=>s.1.1⟩
noncomputable def B4f (F:(List Int)→Option d9):FE:=D86.fe fun s=>F s.1.1
abbrev R87:Type:=TQ
noncomputable def D87:FD:=⟨87,Tryz.f87,9,⟨[],[],[]⟩,⟨[(0, .d tQ),(1, .d tQ)],[]⟩,⟨[(0, .d tQ)],[]⟩,[.d tQ],R87,fun o=>(((o.1,o.2),()),()),fun s=>(s.1.1.1,s.1.1.2)⟩
noncomputable def D1s (F:TQ→TQ→Option R87):FE:=D87.fe fun s=>F s.1.1 s.1.2.1
abbrev R88:Type:=TQ
noncomputable def D88:FD:=⟨88,Tryz.f88,9,⟨[],[],[]⟩,⟨[(0, .d tQ),(1, .d tQ)],[]⟩,⟨[(0, .d tQ)],[]⟩,[.d tQ],R88,fun o=>(((o.1,o.2),()),()),fun s=>(s.1.1.1,s.1.1.2)⟩
noncomputable def B6K (F:TQ→TQ→Option R88):FE:=D88.fe fun s=>F s.1.1 s.1.2.1
abbrev Z3:Type:=TQ
noncomputable def D89:FD:=⟨89,Tryz.f89,6,⟨[],[],[]⟩,⟨[(0, .d (.it .i64))],[]⟩,⟨[(0, .d tQ)],[]⟩,[.d tQ],Z3,fun o=>(((o.1,o.2),()),()),fun s=>(s.1.1.1,s.1.1.2)⟩
noncomputable def A6Y (F:Int→Option Z3):FE:=D89.fe fun s=>F s.1.1
abbrev d7:Type:=TP
noncomputable def D90:FD:=⟨90,Tryz.f90,31,⟨[(3,[(0, .any),(1, .any),(5, .any),(14, .any),(15, .any)])],[],[]⟩,⟨[(0, .d (.li tQ)),(1, .d (.li tQ))],[]⟩,⟨[(0, .d (.li tQ))],[]⟩,[.d (.li tQ)],d7,fun o=>((o,()),()),fun s=>s.1.1⟩
noncomputable def B5H (F:TP→TP→Option d7):FE:=D90.fe fun s=>F s.1.1 s.1.2.1
abbrev P6:Type:=TP
noncomputable def D91:FD:=⟨91,Tryz.f91,71,⟨[(5,[(0, .any),(1, .any),(5, .any),(27, .any),(28, .any)]),(10,[(1, .any),(5, .any),(36, .any),(37, .any),(38, .any)]),(14,[(1, .any),(5, .any),(7, .any),(8, .any),(36, .any),(37, .any),(38, .any),(45, .any),(46, .any),(47, .any)])],[],[]⟩,⟨[(0, .d (.li tQ)),(1, .d (.li tQ))],[]⟩,⟨[(0, .d (.li tQ))],[]⟩,[.d (.li tQ)],P6,fun o=>((o,()),()),fun s=>s.1.1⟩
noncomputable def B3r (F:TP→TP→Option P6):FE:=D91.fe fun s=>F s.1.1 s.1.2.1
abbrev R8:Type:=TP
noncomputable def D92:FD:=⟨92,Tryz.f92,22,⟨[(2,[(0, .any),(3, .any)])],[],[]⟩,⟨[(0, .d (.li tQ))],[]⟩,⟨[(0, .d (.li tQ))],[]⟩,[.d (.li tQ)],R8,fun o=>((o,()),()),fun s=>s.1.1⟩
noncomputable def A7D (F:TP→Option R8):FE:=D92.fe fun s=>F s.1.1
abbrev R93:Type:=Bool
noncomputable def D93:FD:=⟨93,Tryz.f93,10,⟨[],[],[]⟩,⟨[(0, .d (.li tQ))],[]⟩,⟨[(0, .d .bo)],[]⟩,[.d .bo],R93,fun o=>((o,()),()),fun s=>s.1.1⟩
noncomputable def D7X (F:TP→Option R93):FE:=D93.fe fun s=>F s.1.1
abbrev R98:Type:=TP
noncomputable def D98:FD:=⟨98,Tryz.f98,23,⟨[(3,[(3, .any),(5, .own tQ),(8, .any),(9, .any),(10, .any)])],[],[]⟩,⟨[(0, .d (.li tQ)),(1, .d tQ)],[]⟩,⟨[(0, .d (.li tQ))],[]⟩,[.d (.li tQ)],R98,fun o=>((o,()),()),fun s=>s.1.1⟩
noncomputable def D6p (F:TP→TQ→Option R98):FE:=D98.fe fun s=>F s.1.1 s.1.2.1
abbrev R99:Type:=TQ
noncomputable def D99:FD:=⟨99,Tryz.f99,9,⟨[],[],[]⟩,⟨[(0, .d tQ),(1, .d tQ)],[]⟩,⟨[(0, .d tQ)],[]⟩,[.d tQ],R99,fun o=>(((o.1,o.2),()),()),fun s=>(s.1.1.1,s.1.1.2)⟩
noncomputable def D9a (F:TQ→TQ→Option R99):FE:=D99.fe fun s=>F s.1.1 s.1.2.1
abbrev A6q:Type:=TQ
noncomputable def B6x:FD:=⟨101,Tryz.f101,38,⟨[],[],[]⟩,⟨[(0, .d tQ),(1, .d tQ)],[]⟩,⟨[(0, .d tQ)],[]⟩,[.d tQ],A6q,fun o=>(((o.1,o.2),()),()),fun s=>(s.1.1.1,s.1.1.2)⟩
noncomputable def C7I (F:TQ→TQ→Option A6q):FE:=B6x.fe fun s=>F s.1.1 s.1.2.1
abbrev B2j:Type:=TQ
noncomputable def C0O:FD:=⟨102,Tryz.f102,14,⟨[],[],[]⟩,⟨[(0, .d (.li tQ)),(1, .d (.it .i64))],[]⟩,⟨[(0, .d tQ)],[]⟩,[.d tQ],B2j,fun o=>(((o.1,o.2),()),()),fun s=>(s.1.1.1,s.1.1.2)⟩
noncomputable def D7T (F:TP→Int→Option B2j):FE:=C0O.fe fun s=>F s.1.1 s.1.2.1
abbrev B1x:Type:=TP
noncomputable def C0c:FD:=⟨103,Tryz.f103,13,⟨[],[],[]⟩,⟨[(0, .d (.li (.li tQ))),(1, .d (.it .i64))],[]⟩,⟨[(0, .d (.li tQ))],[]⟩,[.d (.li tQ)],B1x,fun o=>((o,()),()),fun s=>s.1.1⟩
noncomputable def D9e (F:TF→Int→Option B1x):FE:=C0c.fe fun s=>F s.1.1 s.1.2.1
abbrev i6:Type:=TF
noncomputable def B2D:FD:=⟨104,Tryz.f104,24,⟨[(2,[(0, .any),(3, .any)])],[],[]⟩,⟨[(0, .d (.li (.li tQ)))],[]⟩,⟨[(0, .d (.li (.li tQ)))],[]⟩,[.d (.li (.li tQ))],i6,fun o=>((o,()),()),fun s=>s.1.1⟩
noncomputable def B3b (F:TF→Option i6):FE:=B2D.fe fun s=>F s.1.1
abbrev A1O:Type:=(TP×Bool)
noncomputable def B0e:FD:=⟨106,Tryz.f106,46,⟨[(4,[(0, .any),(6, .any),(7, .any),(8, .val (.li tQ)),(9, .any)])],[],[]⟩,⟨[(0, .d (.li tQ)),(1, .d (.li tQ))],[]⟩,⟨[(0, .d (.li tQ)),(1, .d .bo)],[]⟩,[.d (.li tQ), .d .bo],A1O,fun o=>((o.1,o.2,()),()),fun s=>(s.1.1,s.1.2.1)⟩
noncomputable def D1H (F:TP→TP→Option A1O):FE:=B0e.fe fun s=>F s.1.1 s.1.2.1
abbrev d5:Type:=(TF×TF)
noncomputable def A6D:FD:=⟨107,Tryz.f107,92,⟨[(7,[(2, .any),(3, .any),(4, .any),(10, .any),(11, .any),(12, .any),(13, .any)]),(13,[(2, .any),(3, .any),(4, .any),(10, .any),(11, .any),(12, .any),(13, .any),(14, .any),(60, .any),(61, .any)])],[],[]⟩,⟨[(0, .d (.ag (.li tQ))),(1, .d (.li (.li tQ))),(2, .d (.li (.li tQ))),(3, .d (.li tQ))],[]⟩,⟨[(0, .d (.li (.li tQ))),(1, .d (.li (.li tQ)))],[]⟩,[.d (.li (.li tQ)), .d (.li (.li tQ))],d5,fun o=>((o.1,o.2,()),()),fun s=>(s.1.1,s.1.2.1)⟩
noncomputable def C1a (F:TP→TF→TF→TP→Option d5):FE:=A6D.fe fun s=>F s.1.1 s.1.2.1 s.1.2.2.1 s.1.2.2.2.1
abbrev A1h:Type:=Bool
noncomputable def B6q:FD:=⟨108,Tryz.f108,10,⟨[],[],[]⟩,⟨[(0, .d (.li (.li tQ)))],[]⟩,⟨[(0, .d .bo)],[]⟩,[.d .bo],A1h,fun o=>((o,()),()),fun s=>s.1.1⟩
noncomputable def B3j (F:TF→Option A1h):FE:=B6q.fe fun s=>F s.1.1
abbrev A3v:Type:=TP
noncomputable def B9H:FD:=⟨109,Tryz.f109,9,⟨[],[],[]⟩,⟨[(0, .d (.ag (.li tQ))),(1, .d (.li tQ))],[]⟩,⟨[(0, .d (.li tQ))],[]⟩,[.d (.li tQ)],A3v,fun o=>((o,()),()),fun s=>s.1.1⟩
noncomputable def B7S (F:TP→TP→Option A3v):FE:=B9H.fe fun s=>F s.1.1 s.1.2.1
abbrev B1N:Type:=(TF×Bool)
noncomputable def B6V:FD:=⟨110,Tryz.f110,29,⟨[],[],[]⟩,⟨[(0, .d (.ag (.li tQ))),(1, .d (.li (.li tQ)))],[]⟩,⟨[(0, .d (.li (.li tQ))),(1, .d .bo)],[]⟩,[.d (.li (.li tQ)), .d .bo],B1N,fun o=>((o.1,o.2,()),()),fun s=>(s.1.1,s.1.2.1)⟩
noncomputable def D4k (F:TP→TF→Option B1N):FE:=B6V.fe fun s=>F s.1.1 s.1.2.1
abbrev B2x:Type:=(TF×Int)
noncomputable def C0Q:FD:=⟨111,Tryz.f111,10,⟨[],[],[]⟩,⟨[(0, .cl 112 [(.li (.li tQ))])],[]⟩,⟨[(0, .d (.li (.li tQ))),(1, .d (.it .i64))],[]⟩,[.d (.li (.li tQ)), .d (.it .i64)],B2x,fun o=>((o.1,o.2,()),()),fun s=>(s.1.1,s.1.2.1)⟩
noncomputable def D1q (F:(TF×Unit)→Option B2x):FE:=C0Q.fe fun s=>F s.1.1
abbrev B0E:Type:=(TF×Int)
noncomputable def B6M:FD:=⟨111,Tryz.f111,10,⟨[],[],[]⟩,⟨[(0, .cl 130 [(.ag (.li tQ)),(.li (.li tQ)),(.li tQ)])],[]⟩,⟨[(0, .d (.li (.li tQ))),(1, .d (.it .i64))],[]⟩,[.d (.li (.li tQ)), .d (.it .i64)],B0E,fun o=>((o.1,o.2,()),()),fun s=>(s.1.1,s.1.2.1)⟩
noncomputable def D8R (F:(TP×TF×TP×Unit)→Option B0E):FE:=B6M.fe fun s=>F s.1.1
abbrev B2h:Type:=(TF×Int)
noncomputable def B6t:FD:=⟨111,Tryz.f111,10,⟨[],[],[]⟩,⟨[(0, .cl 125 [(.li tQ),(.li (.li tQ)),(.ag (.li tQ))])],[]⟩,⟨[(0, .d (.li (.li tQ))),(1, .d (.it .i64))],[]⟩,[.d (.li (.li tQ)), .d (.it .i64)],B2h,fun o=>((o.1,o.2,()),()),fun s=>(s.1.1,s.1.2.1)⟩
noncomputable def D5D (F:(TP×TF×TP×Unit)→Option B2h):FE:=B6t.fe fun s=>F s.1.1
abbrev B0c:Type:=TF
noncomputable def B8K:FD:=⟨112,Tryz.f112,3,⟨[],[],[]⟩,⟨[(0, .pv (.li (.li tQ)))],[]⟩,⟨[(0, .d (.li (.li tQ)))],[]⟩,[.d (.li (.li tQ))],B0c,fun o=>((o,()),()),fun s=>s.1.1⟩
noncomputable def D5o (F:TF→Option B0c):FE:=B8K.fe fun s=>F s.1.1
abbrev A6p:Type:=TP
noncomputable def B9U:FD:=⟨116,Tryz.f116,12,⟨[],[],[]⟩,⟨[(0, .d (.ag (.li tQ))),(1, .d (.li tQ)),(2, .d (.li tQ))],[]⟩,⟨[(0, .d (.li tQ))],[]⟩,[.d (.li tQ)],A6p,fun o=>((o,()),()),fun s=>s.1.1⟩
noncomputable def C4L (F:TP→TP→TP→Option A6p):FE:=B9U.fe fun s=>F s.1.1 s.1.2.1 s.1.2.2.1
abbrev A0X:Type:=Int
noncomputable def B3H:FD:=⟨117,Tryz.f117,18,⟨[(2,[(6, .any),(7, .any),(8, .any)])],[],[]⟩,⟨[(0, .d (.li tQ))],[]⟩,⟨[(0, .d (.it .i64))],[]⟩,[.d (.it .i64)],A0X,fun o=>((o,()),()),fun s=>s.1.1⟩
noncomputable def C3r (F:TP→Option A0X):FE:=B3H.fe fun s=>F s.1.1
abbrev A3s:Type:=TQ
noncomputable def B9x:FD:=⟨118,Tryz.f118,30,⟨[],[],[]⟩,⟨[(0, .d tQ),(1, .d tQ)],[]⟩,⟨[(0, .d tQ)],[]⟩,[.d tQ],A3s,fun o=>(((o.1,o.2),()),()),fun s=>(s.1.1.1,s.1.1.2)⟩
noncomputable def B6e (F:TQ→TQ→Option A3s):FE:=B9x.fe fun s=>F s.1.1 s.1.2.1
abbrev B2P:Type:=Int
noncomputable def B8q:FD:=⟨119,Tryz.f119,33,⟨[],[],[]⟩,⟨[(0, .d (.ag (.li tQ)))],[]⟩,⟨[(0, .d (.it .i64))],[]⟩,[.d (.it .i64)],B2P,fun o=>((o,()),()),fun s=>s.1.1⟩
noncomputable def D3x (F:TP→Option B2P):FE:=B8q.fe fun s=>F s.1.1
abbrev A0U:Type:=Int
noncomputable def B0D:FD:=⟨120,Tryz.f120,33,⟨[(4,[(0, .any),(9, .any),(10, .any),(11, .any)])],[],[]⟩,⟨[(0, .d (.li tQ))],[]⟩,⟨[(0, .d (.it .i64))],[]⟩,[.d (.it .i64)],A0U,fun o=>((o,()),()),fun s=>s.1.1⟩
noncomputable def C2s (F:TP→Option A0U):FE:=B0D.fe fun s=>F s.1.1
abbrev Y2:Type:=TF
noncomputable def B2f:FD:=⟨122,Tryz.f122,23,⟨[(2,[(0, .any),(3, .any)])],[],[]⟩,⟨[(0, .d (.li (.li tQ)))],[]⟩,⟨[(0, .d (.li (.li tQ)))],[]⟩,[.d (.li (.li tQ))],Y2,fun o=>((o,()),()),fun s=>s.1.1⟩
noncomputable def B1A (F:TF→Option Y2):FE:=B2f.fe fun s=>F s.1.1
abbrev A5q:Type:=Int
noncomputable def B8Q:FD:=⟨123,Tryz.f123,6,⟨[],[],[]⟩,⟨[(0, .d tQ)],[]⟩,⟨[(0, .d (.it .i64))],[]⟩,[.d (.it .i64)],A5q,fun o=>((o,()),()),fun s=>s.1.1⟩
noncomputable def C3P (F:TQ→Option A5q):FE:=B8Q.fe fun s=>F s.1.1
abbrev A1m:Type:=Int
noncomputable def B7T:FD:=⟨124,Tryz.f124,17,⟨[],[],[]⟩,⟨[(0, .d (.ag (.li tQ))),(1, .d (.li tQ))],[]⟩,⟨[(0, .d (.it .i64))],[]⟩,[.d (.it .i64)],A1m,fun o=>((o,()),()),fun s=>s.1.1⟩
noncomputable def B3o (F:TP→TP→Option A1m):FE:=B7T.fe fun s=>F s.1.1 s.1.2.1
abbrev A2L:Type:=TF
noncomputable def B0f:FD:=⟨125,Tryz.f125,31,⟨[(4,[(1, .any),(2, .any),(4, .val (.li (.li tQ))),(5, .any),(6, .any)])],[],[]⟩,⟨[(0, .pv (.li tQ)),(1, .pv (.li (.li tQ))),(2, .pv (.ag (.li tQ)))],[]⟩,⟨[(0, .d (.li (.li tQ)))],[]⟩,[.d (.li (.li tQ))],A2L,fun o=>((o,()),()),fun s=>s.1.1⟩
noncomputable def D8f (F:TP→TF→TP→Option A2L):FE:=B0f.fe fun s=>F s.1.1 s.1.2.1 s.1.2.2.1
abbrev A3H:Type:=TF
noncomputable def B2n:FD:=⟨126,Tryz.f126,31,⟨[(3,[(0, .any),(1, .any),(5, .any),(14, .any),(15, .any)])],[],[]⟩,⟨[(0, .d (.li (.li tQ))),(1, .d (.li (.li tQ)))],[]⟩,⟨[(0, .d (.li (.li tQ)))],[]⟩,[.d (.li (.li tQ))],A3H,fun o=>((o,()),()),fun s=>s.1.1⟩
noncomputable def D3C (F:TF→TF→Option A3H):FE:=B2n.fe fun s=>F s.1.1 s.1.2.1
abbrev X7:Type:=TF
noncomputable def A4E:FD:=⟨127,Tryz.f127,77,⟨[(5,[(2, .any),(3, .any),(7, .any),(28, .any),(29, .any),(30, .any)]),(8,[(2, .any),(3, .any),(7, .any),(8, .any),(9, .any),(28, .any),(29, .any),(30, .any),(35, .any),(36, .any),(37, .any)]),(14,[(3, .any),(7, .any),(60, .any),(61, .any)])],[],[]⟩,⟨[(0, .d (.ag (.li tQ))),(1, .d (.li (.li tQ))),(2, .d (.li (.li tQ)))],[]⟩,⟨[(0, .d (.li (.li tQ)))],[]⟩,[.d (.li (.li tQ))],X7,fun o=>((o,()),()),fun s=>s.1.1⟩
noncomputable def D6x (F:TP→TF→TF→Option X7):FE:=A4E.fe fun s=>F s.1.1 s.1.2.1 s.1.2.2.1
abbrev A6J:Type:=Bool
noncomputable def C0I:FD:=⟨128,Tryz.f128,5,⟨[],[],[]⟩,⟨[(0, .d (.li (.li tQ)))],[]⟩,⟨[(0, .d .bo)],[]⟩,[.d .bo],A6J,fun o=>((o,()),()),fun s=>s.1.1⟩
noncomputable def C2r (F:TF→Option A6J):FE:=C0I.fe fun s=>F s.1.1
abbrev B1W:Type:=TF
noncomputable def B7g:FD:=⟨130,Tryz.f130,8,⟨[],[],[]⟩,⟨[(0, .pv (.ag (.li tQ))),(1, .pv (.li (.li tQ))),(2, .pv (.li tQ))],[]⟩,⟨[(0, .d (.li (.li tQ)))],[]⟩,[.d (.li (.li tQ))],B1W,fun o=>((o,()),()),fun s=>s.1.1⟩
noncomputable def D2m (F:TP→TF→TP→Option B1W):FE:=B7g.fe fun s=>F s.1.1 s.1.2.1 s.1.2.2.1
abbrev A0T:Type:=TF
noncomputable def B0T:FD:=⟨131,Tryz.f131,31,⟨[(3,[(2, .any),(3, .any),(7, .any),(13, .any),(14, .any),(15, .any)])],[],[]⟩,⟨[(0, .d (.ag (.li tQ))),(1, .d (.li (.li tQ))),(2, .d (.li tQ))],[]⟩,⟨[(0, .d (.li (.li tQ)))],[]⟩,[.d (.li (.li tQ))],A0T,fun o=>((o,()),()),fun s=>s.1.1⟩
noncomputable def C2O (F:TP→TF→TP→Option A0T):FE:=B0T.fe fun s=>F s.1.1 s.1.2.1 s.1.2.2.1
abbrev A6F:Type:=Int
noncomputable def B6L:FD:=⟨135,Tryz.f135,28,⟨[],[],[]⟩,⟨[(0, .d tQ)],[]⟩,⟨[(0, .d (.it .i64))],[]⟩,[.d (.it .i64)],A6F,fun o=>((o,()),()),fun s=>s.1.1⟩
noncomputable def C2U (F:TQ→Option A6F):FE:=B6L.fe fun s=>F s.1.1
abbrev A2n:Type:=TP
noncomputable def B1h:FD:=⟨137,Tryz.f137,27,⟨[(3,[(3, .any),(5, .any),(11, .any),(12, .any),(13, .any)])],[],[]⟩,⟨[(0, .d (.li tQ)),(1, .d tQ)],[]⟩,⟨[(0, .d (.li tQ))],[]⟩,[.d (.li tQ)],A2n,fun o=>((o,()),()),fun s=>s.1.1⟩
noncomputable def D4G (F:TP→TQ→Option A2n):FE:=B1h.fe fun s=>F s.1.1 s.1.2.1
abbrev A2N:Type:=Int
noncomputable def B2S:FD:=⟨138,Tryz.f138,37,⟨[(4,[(1, .any),(2, .any),(11, .any),(12, .any),(13, .any)])],[],[]⟩,⟨[(0, .d (.ag (.li tQ))),(1, .d (.li (.li tQ)))],[]⟩,⟨[(0, .d (.it .i64))],[]⟩,[.d (.it .i64)],A2N,fun o=>((o,()),()),fun s=>s.1.1⟩
noncomputable def D7Y (F:TP→TF→Option A2N):FE:=B2S.fe fun s=>F s.1.1 s.1.2.1
abbrev B1O:Type:=TI
noncomputable def B8J:FD:=⟨141,Tryz.f141,16,⟨[],[],[]⟩,⟨[(0, .d (.it .i64))],[]⟩,⟨[(0, .d (.ag (.pr .bo .st)))],[]⟩,[.d (.ag (.pr .bo .st))],B1O,fun o=>(((o.1,o.2),()),()),fun s=>(s.1.1.1,s.1.1.2)⟩
noncomputable def D9d (F:Int→Option B1O):FE:=B8J.fe fun s=>F s.1.1
abbrev A0G:Type:=TQ
noncomputable def C1A:FD:=⟨142,Tryz.f142,31,⟨[],[],[]⟩,⟨[(0, .d tQ),(1, .d tQ)],[]⟩,⟨[(0, .d tQ)],[]⟩,[.d tQ],A0G,fun o=>(((o.1,o.2),()),()),fun s=>(s.1.1.1,s.1.1.2)⟩
noncomputable def B2F (F:TQ→TQ→Option A0G):FE:=C1A.fe fun s=>F s.1.1 s.1.2.1
abbrev B0q:Type:=TQ
noncomputable def B9E:FD:=⟨143,Tryz.f143,14,⟨[],[],[]⟩,⟨[(0, .d tQ),(1, .d (.it .i64))],[]⟩,⟨[(0, .d tQ)],[]⟩,[.d tQ],B0q,fun o=>(((o.1,o.2),()),()),fun s=>(s.1.1.1,s.1.1.2)⟩
noncomputable def D8u (F:TQ→Int→Option B0q):FE:=B9E.fe fun s=>F s.1.1 s.1.2.1
abbrev R5:Type:=(TP×TP)
noncomputable def A3a:FD:=⟨144,Tryz.f144,99,⟨[(7,[(0, .any),(1, .any),(6, .any),(7, .any),(8, .any),(30, .any),(31, .any)]),(13,[(1, .any),(6, .any),(7, .any),(8, .any),(10, .any),(11, .any)]),(19,[(1, .any),(6, .any),(7, .any),(8, .any),(10, .any),(11, .any),(12, .any),(69, .any),(70, .any)])],[],[]⟩,⟨[(0, .d (.li tQ)),(1, .d (.li tQ))],[]⟩,⟨[(0, .d (.li tQ)),(1, .d (.li tQ))],[]⟩,[.d (.li tQ), .d (.li tQ)],R5,fun o=>((o.1,o.2,()),()),fun s=>(s.1.1,s.1.2.1)⟩
noncomputable def B9y (F:TP→TP→Option R5):FE:=A3a.fe fun s=>F s.1.1 s.1.2.1
abbrev A7G:Type:=TQ
noncomputable def B7C:FD:=⟨145,Tryz.f145,9,⟨[],[],[]⟩,⟨[(0, .d tQ)],[]⟩,⟨[(0, .d tQ)],[]⟩,[.d tQ],A7G,fun o=>(((o.1,o.2),()),()),fun s=>(s.1.1.1,s.1.1.2)⟩
noncomputable def C1y (F:TQ→Option A7G):FE:=B7C.fe fun s=>F s.1.1
abbrev A3z:Type:=TP
noncomputable def B7Z:FD:=⟨146,Tryz.f146,12,⟨[],[],[]⟩,⟨[(0, .d (.li tQ)),(1, .d (.li tQ)),(2, .d (.li tQ))],[]⟩,⟨[(0, .d (.li tQ))],[]⟩,[.d (.li tQ)],A3z,fun o=>((o,()),()),fun s=>s.1.1⟩
noncomputable def B9e (F:TP→TP→TP→Option A3z):FE:=B7Z.fe fun s=>F s.1.1 s.1.2.1 s.1.2.2.1
abbrev A3r:Type:=TQ
noncomputable def B6y:FD:=⟨147,Tryz.f147,13,⟨[],[],[]⟩,⟨[(0, .d tQ)],[]⟩,⟨[(0, .d tQ)],[]⟩,[.d tQ],A3r,fun o=>(((o.1,o.2),()),()),fun s=>(s.1.1.1,s.1.1.2)⟩
noncomputable def B8w (F:TQ→Option A3r):FE:=B6y.fe fun s=>F s.1.1
abbrev A4N:Type:=TQ
noncomputable def B8A:FD:=⟨148,Tryz.f148,58,⟨[],[],[]⟩,⟨[(0, .d tQ),(1, .d tQ)],[]⟩,⟨[(0, .d tQ)],[]⟩,[.d tQ],A4N,fun o=>(((o.1,o.2),()),()),fun s=>(s.1.1.1,s.1.1.2)⟩
noncomputable def C0m (F:TQ→TQ→Option A4N):FE:=B8A.fe fun s=>F s.1.1 s.1.2.1
abbrev A4B:Type:=TQ
noncomputable def B9a:FD:=⟨149,Tryz.f149,5,⟨[],[],[]⟩,⟨[(0, .d (.ag (.pr .bo .st)))],[]⟩,⟨[(0, .d tQ)],[]⟩,[.d tQ],A4B,fun o=>(((o.1,o.2),()),()),fun s=>(s.1.1.1,s.1.1.2)⟩
noncomputable def B9C (F:TI→Option A4B):FE:=B9a.fe fun s=>F s.1.1
abbrev A9x:Type:=TI
noncomputable def C1E:FD:=⟨150,Tryz.f150,14,⟨[],[],[]⟩,⟨[(0, .d (.it .i64))],[]⟩,⟨[(0, .d (.ag (.pr .bo .st)))],[]⟩,[.d (.ag (.pr .bo .st))],A9x,fun o=>(((o.1,o.2),()),()),fun s=>(s.1.1.1,s.1.1.2)⟩
noncomputable def D9p (F:Int→Option A9x):FE:=C1E.fe fun s=>F s.1.1
abbrev A6P:Type:=TQ
noncomputable def B8Z:FD:=⟨151,Tryz.f151,18,⟨[],[],[]⟩,⟨[(0, .d (.li tQ)),(1, .d (.it .i64))],[]⟩,⟨[(0, .d tQ)],[]⟩,[.d tQ],A6P,fun o=>(((o.1,o.2),()),()),fun s=>(s.1.1.1,s.1.1.2)⟩
noncomputable def C4S (F:TP→Int→Option A6P):FE:=B8Z.fe fun s=>F s.1.1 s.1.2.1
abbrev A1i:Type:=Bool
noncomputable def C1L:FD:=⟨152,Tryz.f152,7,⟨[],[],[]⟩,⟨[(0, .d tQ)],[]⟩,⟨[(0, .d .bo)],[]⟩,[.d .bo],A1i,fun o=>((o,()),()),fun s=>s.1.1⟩
noncomputable def B4x (F:TQ→Option A1i):FE:=C1L.fe fun s=>F s.1.1
abbrev A9v:Type:=Bool
noncomputable def B8y:FD:=⟨153,Tryz.f153,9,⟨[],[],[]⟩,⟨[(0, .d (.li tQ)),(1, .f (.cl 170 []))],[]⟩,⟨[(0, .d .bo)],[]⟩,[.d .bo],A9v,fun o=>((o,()),()),fun s=>s.1.1⟩
noncomputable def D4U (F:TP→Option A9v):FE:=B8y.fe fun s=>F s.1.1
abbrev A6W:Type:=Bool
noncomputable def C0M:FD:=⟨153,Tryz.f153,9,⟨[],[],[]⟩,⟨[(0, .d (.li tQ)),(1, .f (.cl 154 []))],[]⟩,⟨[(0, .d .bo)],[]⟩,[.d .bo],A6W,fun o=>((o,()),()),fun s=>s.1.1⟩
noncomputable def C3J (F:TP→Option A6W):FE:=C0M.fe fun s=>F s.1.1
abbrev B1c:Type:=Bool
noncomputable def C0T:FD:=⟨154,Tryz.f154,14,⟨[],[],[]⟩,⟨[(0, .d tQ)],[]⟩,⟨[(0, .d .bo)],[]⟩,[.d .bo],B1c,fun o=>((o,()),()),fun s=>s.1.1⟩
noncomputable def D3l (F:TQ→Option B1c):FE:=C0T.fe fun s=>F s.1.1
abbrev B0G:Type:=TQ
noncomputable def B9l:FD:=⟨157,Tryz.f157,18,⟨[],[],[]⟩,⟨[(0, .d tQ)],[]⟩,⟨[(0, .d tQ)],[]⟩,[.d tQ],B0G,fun o=>(((o.1,o.2),()),()),fun s=>(s.1.1.1,s.1.1.2)⟩
noncomputable def D8g (F:TQ→Option B0G):FE:=B9l.fe fun s=>F s.1.1
abbrev A6e:Type:=TQ
noncomputable def B7b:FD:=⟨159,Tryz.f159,5,⟨[],[],[]⟩,⟨[(0, .d (.ag (.pr .bo .st)))],[]⟩,⟨[(0, .d tQ)],[]⟩,[.d tQ],A6e,fun o=>(((o.1,o.2),()),()),fun s=>(s.1.1.1,s.1.1.2)⟩
noncomputable def C6w (F:TI→Option A6e):FE:=B7b.fe fun s=>F s.1.1
abbrev B1n:Type:=TI
noncomputable def B7o:FD:=⟨160,Tryz.f160,40,⟨[],[],[]⟩,⟨[(0, .d (.ag (.pr .bo .st))),(1, .d (.ag (.pr .bo .st)))],[]⟩,⟨[(0, .d (.ag (.pr .bo .st)))],[]⟩,[.d (.ag (.pr .bo .st))],B1n,fun o=>(((o.1,o.2),()),()),fun s=>(s.1.1.1,s.1.1.2)⟩
noncomputable def D4n (F:TI→TI→Option B1n):FE:=B7o.fe fun s=>F s.1.1 s.1.2.1
abbrev A6i:Type:=TI
noncomputable def B6z:FD:=⟨161,Tryz.f161,16,⟨[],[],[]⟩,⟨[(0, .d (.ag (.pr .bo .st))),(1, .d (.ag (.pr .bo .st)))],[]⟩,⟨[(0, .d (.ag (.pr .bo .st)))],[]⟩,[.d (.ag (.pr .bo .st))],A6i,fun o=>(((o.1,o.2),()),()),fun s=>(s.1.1.1,s.1.1.2)⟩
noncomputable def C4e (F:TI→TI→Option A6i):FE:=B6z.fe fun s=>F s.1.1 s.1.2.1
abbrev A6O:Type:=TI
noncomputable def B9I:FD:=⟨162,Tryz.f162,6,⟨[],[],[]⟩,⟨[(0, .d tQ)],[]⟩,⟨[(0, .d (.ag (.pr .bo .st)))],[]⟩,[.d (.ag (.pr .bo .st))],A6O,fun o=>(((o.1,o.2),()),()),fun s=>(s.1.1.1,s.1.1.2)⟩
noncomputable def C7N (F:TQ→Option A6O):FE:=B9I.fe fun s=>F s.1.1
abbrev A6l:Type:=TQ
noncomputable def B6m:FD:=⟨163,Tryz.f163,42,⟨[],[],[]⟩,⟨[(0, .d (.ag (.pr .bo .st))),(1, .d (.ag (.pr .bo .st)))],[]⟩,⟨[(0, .d tQ)],[]⟩,[.d tQ],A6l,fun o=>(((o.1,o.2),()),()),fun s=>(s.1.1.1,s.1.1.2)⟩
noncomputable def C3j (F:TI→TI→Option A6l):FE:=B6m.fe fun s=>F s.1.1 s.1.2.1
abbrev A4A:Type:=TP
noncomputable def C0z:FD:=⟨165,Tryz.f165,14,⟨[],[],[]⟩,⟨[(0, .d (.li tQ)),(1, .d (.li tQ))],[]⟩,⟨[(0, .d (.li tQ))],[]⟩,[.d (.li tQ)],A4A,fun o=>((o,()),()),fun s=>s.1.1⟩
noncomputable def B7t (F:TP→TP→Option A4A):FE:=C0z.fe fun s=>F s.1.1 s.1.2.1
abbrev A1F:Type:=TP
noncomputable def B2p:FD:=⟨166,Tryz.f166,31,⟨[(3,[(0, .any),(1, .any),(5, .any),(14, .any),(15, .any)])],[],[]⟩,⟨[(0, .d (.li tQ)),(1, .d (.li tQ))],[]⟩,⟨[(0, .d (.li tQ))],[]⟩,[.d (.li tQ)],A1F,fun o=>((o,()),()),fun s=>s.1.1⟩
noncomputable def C9q (F:TP→TP→Option A1F):FE:=B2p.fe fun s=>F s.1.1 s.1.2.1
abbrev B2q:Type:=TP
noncomputable def B9N:FD:=⟨167,Tryz.f167,14,⟨[],[],[]⟩,⟨[(0, .d (.li tQ)),(1, .d (.li tQ))],[]⟩,⟨[(0, .d (.li tQ))],[]⟩,[.d (.li tQ)],B2q,fun o=>((o,()),()),fun s=>s.1.1⟩
noncomputable def D4f (F:TP→TP→Option B2q):FE:=B9N.fe fun s=>F s.1.1 s.1.2.1
abbrev B1Y:Type:=Bool
noncomputable def C1P:FD:=⟨170,Tryz.f170,6,⟨[],[],[]⟩,⟨[(0, .d tQ)],[]⟩,⟨[(0, .d .bo)],[]⟩,[.d .bo],B1Y,fun o=>((o,()),()),fun s=>s.1.1⟩
noncomputable def D8o (F:TQ→Option B1Y):FE:=C1P.fe fun s=>F s.1.1
abbrev B0r:Type:=Bool
noncomputable def B7Q:FD:=⟨171,Tryz.f171,6,⟨[],[],[]⟩,⟨[(0, .d tQ)],[]⟩,⟨[(0, .d .bo)],[]⟩,[.d .bo],B0r,fun o=>((o,()),()),fun s=>s.1.1⟩
noncomputable def D7F (F:TQ→Option B0r):FE:=B7Q.fe fun s=>F s.1.1
abbrev A9z:Type:=Int
noncomputable def B7m:FD:=⟨172,Tryz.f172,44,⟨[],[],[]⟩,⟨[(0, .d tQ)],[]⟩,⟨[(0, .d (.it .i64))],[]⟩,[.d (.it .i64)],A9z,fun o=>((o,()),()),fun s=>s.1.1⟩
noncomputable def D6r (F:TQ→Option A9z):FE:=B7m.fe fun s=>F s.1.1
abbrev B0t:Type:=Int
noncomputable def C0K:FD:=⟨173,Tryz.f173,10,⟨[],[],[]⟩,⟨[(0, .d (.ag (.pr .bo .st)))],[]⟩,⟨[(0, .d (.it .i64))],[]⟩,[.d (.it .i64)],B0t,fun o=>((o,()),()),fun s=>s.1.1⟩
noncomputable def D8C (F:TI→Option B0t):FE:=C0K.fe fun s=>F s.1.1
abbrev B1i:Type:=TP
noncomputable def C0j:FD:=⟨174,Tryz.f174,13,⟨[],[],[]⟩,⟨[(0, .d (.li (.li tQ))),(1, .d (.it .i64))],[]⟩,⟨[(0, .d (.li tQ))],[]⟩,[.d (.li tQ)],B1i,fun o=>((o,()),()),fun s=>s.1.1⟩
noncomputable def D2r (F:TF→Int→Option B1i):FE:=C0j.fe fun s=>F s.1.1 s.1.2.1
abbrev B1U:Type:=Bool
noncomputable def B7G:FD:=⟨175,Tryz.f175,9,⟨[],[],[]⟩,⟨[(0, .d (.li (.li tQ))),(1, .f (.cl 176 []))],[]⟩,⟨[(0, .d .bo)],[]⟩,[.d .bo],B1U,fun o=>((o,()),()),fun s=>s.1.1⟩
noncomputable def D3r (F:TF→Option B1U):FE:=B7G.fe fun s=>F s.1.1
abbrev B0j:Type:=Bool
noncomputable def B6d:FD:=⟨176,Tryz.f176,5,⟨[],[],[]⟩,⟨[(0, .d (.li tQ))],[]⟩,⟨[(0, .d .bo)],[]⟩,[.d .bo],B0j,fun o=>((o,()),()),fun s=>s.1.1⟩
noncomputable def D2y (F:TP→Option B0j):FE:=B6d.fe fun s=>F s.1.1
abbrev B2T:Type:=Bool
noncomputable def B8V:FD:=⟨177,Tryz.f177,16,⟨[],[],[]⟩,⟨[(0, .d (.ag (.pr .bo .st)))],[]⟩,⟨[(0, .d .bo)],[]⟩,[.d .bo],B2T,fun o=>((o,()),()),fun s=>s.1.1⟩
noncomputable def D5L (F:TI→Option B2T):FE:=B8V.fe fun s=>F s.1.1
abbrev A6s:Type:=Bool
noncomputable def B8N:FD:=⟨178,Tryz.f178,10,⟨[],[],[]⟩,⟨[(0, .d .st)],[]⟩,⟨[(0, .d .bo)],[]⟩,[.d .bo],A6s,fun o=>((o,()),()),fun s=>s.1.1⟩
noncomputable def C3K (F:ByteArray→Option A6s):FE:=B8N.fe fun s=>F s.1.1
abbrev B1L:Type:=Int
noncomputable def B7s:FD:=⟨179,Tryz.f179,10,⟨[],[],[]⟩,⟨[(0, .d tQ)],[]⟩,⟨[(0, .d (.it .i64))],[]⟩,[.d (.it .i64)],B1L,fun o=>((o,()),()),fun s=>s.1.1⟩
noncomputable def D2V (F:TQ→Option B1L):FE:=B7s.fe fun s=>F s.1.1
abbrev A0x:Type:=ByteArray
noncomputable def B0h:FD:=⟨180,Tryz.f180,18,⟨[(1,[(0, .any),(1, .any)])],[],[]⟩,⟨[(0, .d .st),(1, .d .st)],[]⟩,⟨[(0, .d .st)],[]⟩,[.d .st],A0x,fun o=>((o,()),()),fun s=>s.1.1⟩
noncomputable def C9f (F:ByteArray→ByteArray→Option A0x):FE:=B0h.fe fun s=>F s.1.1 s.1.2.1
abbrev B2i:Type:=ByteArray
noncomputable def B7N:FD:=⟨183,Tryz.f183,9,⟨[],[],[]⟩,⟨[(0, .d (.it .u64))],[]⟩,⟨[(0, .d .st)],[]⟩,[.d .st],B2i,fun o=>((o,()),()),fun s=>s.1.1⟩
noncomputable def D7S (F:Int→Option B2i):FE:=B7N.fe fun s=>F s.1.1
abbrev B2K:Type:=TI
noncomputable def B8d:FD:=⟨184,Tryz.f184,16,⟨[],[],[]⟩,⟨[(0, .d (.ag (.pr .bo .st))),(1, .d (.ag (.pr .bo .st)))],[]⟩,⟨[(0, .d (.ag (.pr .bo .st)))],[]⟩,[.d (.ag (.pr .bo .st))],B2K,fun o=>(((o.1,o.2),()),()),fun s=>(s.1.1.1,s.1.1.2)⟩
noncomputable def D9q (F:TI→TI→Option B2K):FE:=B8d.fe fun s=>F s.1.1 s.1.2.1
abbrev A6B:Type:=TQ
noncomputable def B9r:FD:=⟨185,Tryz.f185,40,⟨[],[],[]⟩,⟨[(0, .d (.ag (.pr .bo .st))),(1, .d (.ag (.pr .bo .st)))],[]⟩,⟨[(0, .d tQ)],[]⟩,[.d tQ],A6B,fun o=>(((o.1,o.2),()),()),fun s=>(s.1.1.1,s.1.1.2)⟩
noncomputable def C6U (F:TI→TI→Option A6B):FE:=B9r.fe fun s=>F s.1.1 s.1.2.1
abbrev A3m:Type:=ByteArray
noncomputable def B7X:FD:=⟨186,Tryz.f186,11,⟨[],[],[]⟩,⟨[(0, .d .st),(1, .d .st)],[]⟩,⟨[(0, .d .st)],[]⟩,[.d .st],A3m,fun o=>((o,()),()),fun s=>s.1.1⟩
noncomputable def B9F (F:ByteArray→ByteArray→Option A3m):FE:=B7X.fe fun s=>F s.1.1 s.1.2.1
abbrev B1C:Type:=TI
noncomputable def B9d:FD:=⟨187,Tryz.f187,17,⟨[],[],[]⟩,⟨[(0, .d (.ag (.pr .bo .st))),(1, .d (.it .i64))],[]⟩,⟨[(0, .d (.ag (.pr .bo .st)))],[]⟩,[.d (.ag (.pr .bo .st))],B1C,fun o=>(((o.1,o.2),()),()),fun s=>(s.1.1.1,s.1.1.2)⟩
noncomputable def D3g (F:TI→Int→Option B1C):FE:=B9d.fe fun s=>F s.1.1 s.1.2.1
abbrev A0r:Type:=ByteArray
noncomputable def B0s:FD:=⟨188,Tryz.f188,25,⟨[(2,[(1, .any),(5, .val (.li (.it .u64))),(6, .val (.li (.it .u64)))])],[],[]⟩,⟨[(0, .d .st),(1, .d (.it .i64))],[]⟩,⟨[(0, .d .st)],[]⟩,[.d .st],A0r,fun o=>((o,()),()),fun s=>s.1.1⟩
noncomputable def C2H (F:ByteArray→Int→Option A0r):FE:=B0s.fe fun s=>F s.1.1 s.1.2.1
abbrev B4h:Type:=TP
noncomputable def E4x:FD:=⟨189,Tryz.f189,0,⟨[],[],[]⟩,⟨[(0, .d (.li tQ))],[]⟩,⟨[(0, .f (.a (.ref 3000)))],[(3000, .own tQ true)]⟩,[],B4h,fun o=>((),(o,())),fun s=>s.2.1⟩
noncomputable def D7N (F:TP→Option B4h):FE:=E4x.fe fun s=>F s.1.1
abbrev B6h:Type:=TP
noncomputable def B6p:FD:=⟨189,Tryz.f189,8,⟨[],[],[]⟩,⟨[(0, .nv false tQ)],[]⟩,⟨[(0, .f (.a (.ref 3000)))],[(3000, .own tQ true)]⟩,[.own tQ],B6h,fun o=>((),(o,())),fun s=>s.2.1⟩
noncomputable def E5W (F:TP→Option B6h):FE:=B6p.fe fun s=>F s.1.1
abbrev C1B:Type:=TP
noncomputable def C0P:FD:=⟨189,Tryz.f189,8,⟨[],[],[]⟩,⟨[(0, .nv true tQ)],[]⟩,⟨[(0, .f (.a (.ref 3000)))],[(3000, .own tQ true)]⟩,[.own tQ],C1B,fun o=>((),(o,())),fun s=>s.2.1⟩
noncomputable def F4V (F:TP→Option C1B):FE:=C0P.fe fun s=>F s.1.1
abbrev B3F:Type:=TI
noncomputable def B9K:FD:=⟨190,Tryz.f190,9,⟨[],[],[]⟩,⟨[(0, .d (.ag (.pr .bo .st)))],[]⟩,⟨[(0, .d (.ag (.pr .bo .st)))],[]⟩,[.d (.ag (.pr .bo .st))],B3F,fun o=>(((o.1,o.2),()),()),fun s=>(s.1.1.1,s.1.1.2)⟩
noncomputable def D6A (F:TI→Option B3F):FE:=B9K.fe fun s=>F s.1.1
abbrev B2d:Type:=TI
noncomputable def B6U:FD:=⟨191,Tryz.f191,42,⟨[],[],[]⟩,⟨[(0, .d (.ag (.pr .bo .st))),(1, .d (.ag (.pr .bo .st)))],[]⟩,⟨[(0, .d (.ag (.pr .bo .st)))],[]⟩,[.d (.ag (.pr .bo .st))],B2d,fun o=>(((o.1,o.2),()),()),fun s=>(s.1.1.1,s.1.1.2)⟩
noncomputable def D6h (F:TI→TI→Option B2d):FE:=B6U.fe fun s=>F s.1.1 s.1.2.1
abbrev l6:Type:=TI
noncomputable def B7F:FD:=⟨192,Tryz.f192,12,⟨[],[],[]⟩,⟨[(0, .d .bo),(1, .d .st)],[]⟩,⟨[(0, .d (.ag (.pr .bo .st)))],[]⟩,[.d (.ag (.pr .bo .st))],l6,fun o=>(((o.1,o.2),()),()),fun s=>(s.1.1.1,s.1.1.2)⟩
noncomputable def A9e (F:Bool→ByteArray→Option l6):FE:=B7F.fe fun s=>F s.1.1 s.1.2.1
abbrev B2A:Type:=ByteArray
noncomputable def B8f:FD:=⟨193,Tryz.f193,6,⟨[],[],[]⟩,⟨[(0, .d (.it .u64))],[]⟩,⟨[(0, .d .st)],[]⟩,[.d .st],B2A,fun o=>((o,()),()),fun s=>s.1.1⟩
noncomputable def D9C (F:Int→Option B2A):FE:=B8f.fe fun s=>F s.1.1
abbrev A2V:Type:=Int
noncomputable def B0F:FD:=⟨194,Tryz.f194,19,⟨[(2,[(0, .any),(1, .any),(7, .any),(8, .any)])],[],[]⟩,⟨[(0, .d (.li tQ)),(1, .f (.cl 170 []))],[]⟩,⟨[(0, .d (.it .i64))],[]⟩,[.d (.it .i64)],A2V,fun o=>((o,()),()),fun s=>s.1.1⟩
noncomputable def D5d (F:TP→Option A2V):FE:=B0F.fe fun s=>F s.1.1
abbrev A2E:Type:=Int
noncomputable def B2w:FD:=⟨194,Tryz.f194,19,⟨[(2,[(0, .any),(1, .any),(7, .any),(8, .any)])],[],[]⟩,⟨[(0, .d (.li tQ)),(1, .f (.cl 154 []))],[]⟩,⟨[(0, .d (.it .i64))],[]⟩,[.d (.it .i64)],A2E,fun o=>((o,()),()),fun s=>s.1.1⟩
noncomputable def D2O (F:TP→Option A2E):FE:=B2w.fe fun s=>F s.1.1
abbrev A3u:Type:=TI
noncomputable def B6R:FD:=⟨198,Tryz.f198,12,⟨[],[],[]⟩,⟨[(0, .d .bo),(1, .d .st)],[]⟩,⟨[(0, .d (.ag (.pr .bo .st)))],[]⟩,[.d (.ag (.pr .bo .st))],A3u,fun o=>(((o.1,o.2),()),()),fun s=>(s.1.1.1,s.1.1.2)⟩
noncomputable def B8I (F:Bool→ByteArray→Option A3u):FE:=B6R.fe fun s=>F s.1.1 s.1.2.1
abbrev A2Y:Type:=ByteArray
noncomputable def B2g:FD:=⟨199,Tryz.f199,61,⟨[(5,[(5, .any),(6, .any),(7, .own (.it .u64)),(8, .any),(9, .any)])],[],[]⟩,⟨[(0, .d .st),(1, .d .st)],[]⟩,⟨[(0, .d .st)],[]⟩,[.d .st],A2Y,fun o=>((o,()),()),fun s=>s.1.1⟩
noncomputable def D4R (F:ByteArray→ByteArray→Option A2Y):FE:=B2g.fe fun s=>F s.1.1 s.1.2.1
abbrev A7B:Type:=Int
noncomputable def B7e:FD:=⟨200,Tryz.f200,27,⟨[],[],[]⟩,⟨[(0, .d .st),(1, .d .st)],[]⟩,⟨[(0, .d (.it .i64))],[]⟩,[.d (.it .i64)],A7B,fun o=>((o,()),()),fun s=>s.1.1⟩
noncomputable def C7j (F:ByteArray→ByteArray→Option A7B):FE:=B7e.fe fun s=>F s.1.1 s.1.2.1
abbrev A2S:Type:=ByteArray
noncomputable def B0w:FD:=⟨201,Tryz.f201,60,⟨[(6,[(5, .any),(6, .any),(7, .any),(8, .any)])],[],[]⟩,⟨[(0, .d .st),(1, .d .st)],[]⟩,⟨[(0, .d .st)],[]⟩,[.d .st],A2S,fun o=>((o,()),()),fun s=>s.1.1⟩
noncomputable def D8j (F:ByteArray→ByteArray→Option A2S):FE:=B0w.fe fun s=>F s.1.1 s.1.2.1
abbrev v7:Type:=ByteArray
noncomputable def A6E:FD:=⟨202,Tryz.f202,70,⟨[(4,[(5, .any),(6, .any),(7, .any),(8, .any)]),(8,[(5, .any),(6, .any),(7, .any),(8, .any),(9, .any),(10, .any)])],[],[]⟩,⟨[(0, .d .st),(1, .d .st)],[]⟩,⟨[(0, .d .st)],[]⟩,[.d .st],v7,fun o=>((o,()),()),fun s=>s.1.1⟩
noncomputable def D9u (F:ByteArray→ByteArray→Option v7):FE:=A6E.fe fun s=>F s.1.1 s.1.2.1
abbrev W3:Type:=(ByteArray×ByteArray)
noncomputable def A3n:FD:=⟨203,Tryz.f203,148,⟨[(8,[(7, .val (.li (.it .u64))),(8, .any),(9, .any),(10, .any),(11, .any)]),(10,[(7, .any),(8, .any),(9, .any),(10, .any),(11, .any)]),(15,[(7, .val (.li (.it .u64))),(8, .any),(9, .any),(10, .any),(11, .any),(12, .any),(13, .any),(14, .any)])],[],[]⟩,⟨[(0, .d .st),(1, .d .st)],[]⟩,⟨[(0, .d .st),(1, .d .st)],[]⟩,[.d .st, .d .st],W3,fun o=>((o.1,o.2,()),()),fun s=>(s.1.1,s.1.2.1)⟩
noncomputable def C2t (F:ByteArray→ByteArray→Option W3):FE:=A3n.fe fun s=>F s.1.1 s.1.2.1
abbrev A2z:Type:=(TP×TP)
noncomputable def B2z:FD:=⟨210,Tryz.f210,37,⟨[(3,[(1, .any),(6, .val (.li tQ)),(7, .any)])],[],[]⟩,⟨[(0, .d (.li tQ)),(1, .d (.li tQ))],[]⟩,⟨[(0, .d (.li tQ)),(1, .d (.li tQ))],[]⟩,[.d (.li tQ), .d (.li tQ)],A2z,fun o=>((o.1,o.2,()),()),fun s=>(s.1.1,s.1.2.1)⟩
noncomputable def D9v (F:TP→TP→Option A2z):FE:=B2z.fe fun s=>F s.1.1 s.1.2.1
abbrev B2X:Type:=Int
noncomputable def B9c:FD:=⟨213,Tryz.f213,21,⟨[],[],[]⟩,⟨[(0, .d (.ag (.pr .bo .st)))],[]⟩,⟨[(0, .d (.it .i64))],[]⟩,[.d (.it .i64)],B2X,fun o=>((o,()),()),fun s=>s.1.1⟩
noncomputable def D3F (F:TI→Option B2X):FE:=B9c.fe fun s=>F s.1.1
abbrev A7J:Type:=Int
noncomputable def B8x:FD:=⟨214,Tryz.f214,14,⟨[],[],[]⟩,⟨[(0, .d .st)],[]⟩,⟨[(0, .d (.it .i64))],[]⟩,[.d (.it .i64)],A7J,fun o=>((o,()),()),fun s=>s.1.1⟩
noncomputable def C3c (F:ByteArray→Option A7J):FE:=B8x.fe fun s=>F s.1.1
abbrev A1J:Type:=ByteArray
noncomputable def B2I:FD:=⟨215,Tryz.f215,26,⟨[(2,[(5, .val (.li (.it .u64))),(6, .val (.li (.it .u64)))])],[],[]⟩,⟨[(0, .d .st),(1, .d .st)],[]⟩,⟨[(0, .d .st)],[]⟩,[.d .st],A1J,fun o=>((o,()),()),fun s=>s.1.1⟩
noncomputable def C6N (F:ByteArray→ByteArray→Option A1J):FE:=B2I.fe fun s=>F s.1.1 s.1.2.1
abbrev A3U:Type:=Int
noncomputable def B0g:FD:=⟨216,Tryz.f216,19,⟨[(2,[(0, .any),(1, .any),(7, .any),(8, .any)])],[],[]⟩,⟨[(0, .d (.li (.li tQ))),(1, .f (.cl 176 []))],[]⟩,⟨[(0, .d (.it .i64))],[]⟩,[.d (.it .i64)],A3U,fun o=>((o,()),()),fun s=>s.1.1⟩
noncomputable def D3c (F:TF→Option A3U):FE:=B0g.fe fun s=>F s.1.1
abbrev B0A:Type:=Int
noncomputable def C0F:FD:=⟨217,Tryz.f217,6,⟨[],[],[]⟩,⟨[(0, .d (.ag (.pr .bo .st)))],[]⟩,⟨[(0, .d (.it .i64))],[]⟩,[.d (.it .i64)],B0A,fun o=>((o,()),()),fun s=>s.1.1⟩
noncomputable def D6t (F:TI→Option B0A):FE:=C0F.fe fun s=>F s.1.1
abbrev A6k:Type:=Int
noncomputable def B9M:FD:=⟨218,Tryz.f218,6,⟨[],[],[]⟩,⟨[(0, .d .st)],[]⟩,⟨[(0, .d (.it .i64))],[]⟩,[.d (.it .i64)],A6k,fun o=>((o,()),()),fun s=>s.1.1⟩
noncomputable def C4k (F:ByteArray→Option A6k):FE:=B9M.fe fun s=>F s.1.1
abbrev S0:Type:=ByteArray
noncomputable def A6Z:FD:=⟨221,Tryz.f221,38,⟨[(3,[(0, .any),(3, .own (.it .u8)),(4, .any)]),(6,[(0, .any),(3, .own (.it .u8)),(4, .any),(5, .any)])],[],[]⟩,⟨[(0, .d (.li (.it .u64)))],[]⟩,⟨[(0, .d .st)],[]⟩,[.d .st],S0,fun o=>((o,()),()),fun s=>s.1.1⟩
noncomputable def B0N (F:(List Int)→Option S0):FE:=A6Z.fe fun s=>F s.1.1
abbrev B0u:Type:=(ByteArray×ByteArray)
noncomputable def B9G:FD:=⟨222,Tryz.f222,20,⟨[],[],[]⟩,⟨[(0, .d .st),(1, .d .st)],[]⟩,⟨[(0, .d .st),(1, .d .st)],[]⟩,[.d .st, .d .st],B0u,fun o=>((o.1,o.2,()),()),fun s=>(s.1.1,s.1.2.1)⟩
noncomputable def D5j (F:ByteArray→ByteArray→Option B0u):FE:=B9G.fe fun s=>F s.1.1 s.1.2.1
abbrev L8:Type:=ByteArray
noncomputable def A3p:FD:=⟨223,Tryz.f223,55,⟨[(6,[(3, .any),(17, .any),(18, .any),(19, .any)]),(9,[(3, .any),(4, .any),(5, .any),(17, .any),(18, .any),(19, .any),(24, .any)]),(15,[(3, .any),(7, .any)])],[],[]⟩,⟨[(0, .d (.li (.it .u64)))],[]⟩,⟨[(0, .d .st)],[]⟩,[.d .st],L8,fun o=>((o,()),()),fun s=>s.1.1⟩
noncomputable def A7I (F:(List Int)→Option L8):FE:=A3p.fe fun s=>F s.1.1
abbrev i8:Type:=(List Int)
noncomputable def A6I:FD:=⟨224,Tryz.f224,80,⟨[(3,[(1, .any),(5, .any),(20, .any),(21, .any),(22, .any)]),(7,[(1, .any),(5, .any),(6, .any),(7, .any),(8, .any),(20, .any),(21, .any),(22, .any),(27, .any),(28, .any),(29, .any)])],[],[]⟩,⟨[(0, .d (.li (.it .u64))),(1, .d (.li (.it .u64)))],[]⟩,⟨[(0, .d (.li (.it .u64)))],[]⟩,[.d (.li (.it .u64))],i8,fun o=>((o,()),()),fun s=>s.1.1⟩
noncomputable def D0U (F:(List Int)→(List Int)→Option i8):FE:=A6I.fe fun s=>F s.1.1 s.1.2.1
abbrev U9:Type:=(List Int)
noncomputable def B0p:FD:=⟨225,Tryz.f225,39,⟨[(3,[(0, .any),(3, .any),(12, .any),(13, .any)])],[],[]⟩,⟨[(0, .d .st)],[]⟩,⟨[(0, .f (.a (.ref 3000)))],[(3000, .own (.it .u64) true)]⟩,[.own (.it .u64)],U9,fun o=>((),(o,())),fun s=>s.2.1⟩
noncomputable def A7Q (F:ByteArray→Option U9):FE:=B0p.fe fun s=>F s.1.1
abbrev A3V:Type:=ByteArray
noncomputable def B1V:FD:=⟨226,Tryz.f226,60,⟨[(7,[(5, .any),(6, .any),(7, .any),(8, .any),(27, .any),(28, .any)])],[],[]⟩,⟨[(0, .d .st),(1, .d .st)],[]⟩,⟨[(0, .d .st)],[]⟩,[.d .st],A3V,fun o=>((o,()),()),fun s=>s.1.1⟩
noncomputable def D4I (F:ByteArray→ByteArray→Option A3V):FE:=B1V.fe fun s=>F s.1.1 s.1.2.1
abbrev B2L:Type:=Int
noncomputable def C0f:FD:=⟨227,Tryz.f227,27,⟨[],[],[]⟩,⟨[(0, .d .st),(1, .d .st)],[]⟩,⟨[(0, .d (.it .i64))],[]⟩,[.d (.it .i64)],B2L,fun o=>((o,()),()),fun s=>s.1.1⟩
noncomputable def D1h (F:ByteArray→ByteArray→Option B2L):FE:=C0f.fe fun s=>F s.1.1 s.1.2.1
abbrev A2k:Type:=ByteArray
noncomputable def B1j:FD:=⟨228,Tryz.f228,43,⟨[(4,[(5, .any),(6, .any),(7, .any),(15, .any),(16, .any)])],[],[]⟩,⟨[(0, .d .st),(1, .d .st)],[]⟩,⟨[(0, .d .st)],[]⟩,[.d .st],A2k,fun o=>((o,()),()),fun s=>s.1.1⟩
noncomputable def D6y (F:ByteArray→ByteArray→Option A2k):FE:=B1j.fe fun s=>F s.1.1 s.1.2.1
abbrev W4:Type:=(List Int)
noncomputable def A6d:FD:=⟨229,Tryz.f229,34,⟨[(3,[(0, .any),(3, .own (.it .u64)),(4, .any)]),(7,[(0, .any),(3, .any),(4, .any),(5, .any),(6, .any)])],[],[]⟩,⟨[(0, .d .st)],[]⟩,⟨[(0, .f (.a (.ref 3000)))],[(3000, .own (.it .u64) true)]⟩,[.own (.it .u64)],W4,fun o=>((),(o,())),fun s=>s.2.1⟩
noncomputable def B4k (F:ByteArray→Option W4):FE:=A6d.fe fun s=>F s.1.1
abbrev A2K:Type:=(Bool×(List Int))
noncomputable def B2B:FD:=⟨230,Tryz.f230,43,⟨[(5,[(0, .pt),(1, .any),(5, .any)])],[],[]⟩,⟨[(0, .f (.a (.ref 2000))),(1, .d (.li (.it .u64)))],[(2000, .own (.it .u64) false)]⟩,⟨[(0, .d .bo)],[(2000, .own (.it .u64) false)]⟩,[.d .bo],A2K,fun o=>((o.1,()),(o.2,())),fun s=>(s.1.1,s.2.1)⟩
noncomputable def D2c (F:(List Int)→(List Int)→Option A2K):FE:=B2B.fe fun s=>F s.1.1 s.2.1
abbrev B0v:Type:=TI
noncomputable def B9g:FD:=⟨243,Tryz.f243,2,⟨[],[],[]⟩,⟨[],[]⟩,⟨[(0, .d (.ag (.pr .bo .st)))],[]⟩,[.d (.ag (.pr .bo .st))],B0v,fun o=>(((o.1,o.2),()),()),fun s=>(s.1.1.1,s.1.1.2)⟩
noncomputable def D3n (F:Option B0v):FE:=B9g.fe fun s=>F
abbrev U4:Type:=((List Int)×(List Int))
noncomputable def A3b:FD:=⟨244,Tryz.f244,137,⟨[(7,[(0, .any),(1, .any),(6, .any),(7, .any),(8, .any)]),(17,[(9, .any),(10, .val (.li (.it .u64))),(11, .any),(12, .any),(13, .any),(14, .any)]),(21,[(9, .any),(11, .any),(12, .any),(13, .any),(96, .any),(97, .any)])],[],[]⟩,⟨[(0, .d (.li (.it .u64))),(1, .d (.li (.it .u64)))],[]⟩,⟨[(0, .d (.li (.it .u64))),(1, .d (.li (.it .u64)))],[]⟩,[.d (.li (.it .u64)), .d (.li (.it .u64))],U4,fun o=>((o.1,o.2,()),()),fun s=>(s.1.1,s.1.2.1)⟩
noncomputable def C6H (F:(List Int)→(List Int)→Option U4):FE:=A3b.fe fun s=>F s.1.1 s.1.2.1
abbrev u6:Type:=(Int×(List Int))
noncomputable def B1B:FD:=⟨245,Tryz.f245,21,⟨[(2,[(0, .any),(3, .any)])],[],[]⟩,⟨[(0, .f (.a (.ref 2000)))],[(2000, .own (.it .u64) false)]⟩,⟨[(0, .pre 2000)],[(2000, .own (.it .u64) false)]⟩,[.sh],u6,fun o=>((o.1,()),(o.2,())),fun s=>(s.1.1,s.2.1)⟩
noncomputable def B7O (F:(List Int)→Option u6):FE:=B1B.fe fun s=>F s.2.1
abbrev A2g:Type:=(List Int)
noncomputable def B0a:FD:=⟨245,Tryz.f245,21,⟨[(2,[(0, .any),(3, .any)])],[],[]⟩,⟨[(0, .d (.li (.it .u64)))],[]⟩,⟨[(0, .d (.li (.it .u64)))],[]⟩,[.sh],A2g,fun o=>((o,()),()),fun s=>s.1.1⟩
noncomputable def D9E (F:(List Int)→Option A2g):FE:=B0a.fe fun s=>F s.1.1
abbrev A7L:Type:=(Int×Int)
noncomputable def B7n:FD:=⟨246,Tryz.f246,51,⟨[],[],[]⟩,⟨[(0, .d (.it .u64)),(1, .d (.it .u64))],[]⟩,⟨[(0, .d (.it .u64)),(1, .d (.it .u64))],[]⟩,[.d (.it .u64), .d (.it .u64)],A7L,fun o=>((o.1,o.2,()),()),fun s=>(s.1.1,s.1.2.1)⟩
noncomputable def C4T (F:Int→Int→Option A7L):FE:=B7n.fe fun s=>F s.1.1 s.1.2.1
abbrev A4o:Type:=(Int×Int)
noncomputable def F7x:FD:=⟨247,Tryz.f247,0,⟨[],[],[]⟩,⟨[(0, .d (.it .u64)),(1, .d (.it .u64)),(2, .d (.it .u64))],[]⟩,⟨[(0, .d (.it .u64)),(1, .d (.it .u64))],[]⟩,[],A4o,fun o=>((o.1,o.2,()),()),fun s=>(s.1.1,s.1.2.1)⟩
noncomputable def B9z (F:Int→Int→Int→Option A4o):FE:=F7x.fe fun s=>F s.1.1 s.1.2.1 s.1.2.2.1
abbrev A9I:Type:=(Int×Int)
noncomputable def E0q:FD:=⟨248,Tryz.f248,0,⟨[],[],[]⟩,⟨[(0, .d (.it .u64)),(1, .d (.it .u64)),(2, .d (.it .u64))],[]⟩,⟨[(0, .d (.it .u64)),(1, .d (.it .u64))],[]⟩,[],A9I,fun o=>((o.1,o.2,()),()),fun s=>(s.1.1,s.1.2.1)⟩
noncomputable def C8E (F:Int→Int→Int→Option A9I):FE:=E0q.fe fun s=>F s.1.1 s.1.2.1 s.1.2.2.1
abbrev A1E:Type:=(Int×(List Int))
noncomputable def B3D:FD:=⟨249,Tryz.f249,21,⟨[(1,[(0, .pt)])],[],[]⟩,⟨[(0, .f (.a (.ref 2000)))],[(2000, .own (.it .u64) false)]⟩,⟨[(0, .pre 2000)],[(2000, .own (.it .u64) false)]⟩,[.sh],A1E,fun o=>((o.1,()),(o.2,())),fun s=>(s.1.1,s.2.1)⟩
noncomputable def D0p (F:(List Int)→Option A1E):FE:=B3D.fe fun s=>F s.2.1
abbrev A3M:Type:=Int
noncomputable def B1F:FD:=⟨276,Tryz.f276,41,⟨[(6,[(0, .any),(1, .any),(5, .any)])],[],[]⟩,⟨[(0, .d (.li (.it .u64))),(1, .d (.li (.it .u64)))],[]⟩,⟨[(0, .d (.it .i64))],[]⟩,[.d (.it .i64)],A3M,fun o=>((o,()),()),fun s=>s.1.1⟩
noncomputable def D8D (F:(List Int)→(List Int)→Option A3M):FE:=B1F.fe fun s=>F s.1.1 s.1.2.1
abbrev j7:Type:=(Int×Int)
noncomputable def A6f:FD:=⟨277,Tryz.f277,135,⟨[(17,[(2, .any),(8, .any),(9, .any),(10, .any),(11, .any),(13, .any),(14, .any),(15, .any),(16, .any)]),(24,[(2, .any),(8, .any),(9, .any),(10, .any),(14, .any),(15, .any),(16, .any),(17, .any),(18, .any)])],[],[]⟩,⟨[(0, .d (.it .u64)),(1, .d (.it .u64)),(2, .d (.it .u64))],[]⟩,⟨[(0, .d (.it .u64)),(1, .d (.it .u64))],[]⟩,[.d (.it .u64), .d (.it .u64)],j7,fun o=>((o.1,o.2,()),()),fun s=>(s.1.1,s.1.2.1)⟩
noncomputable def C2N (F:Int→Int→Int→Option j7):FE:=A6f.fe fun s=>F s.1.1 s.1.2.1 s.1.2.2.1
abbrev A7E:Type:=Int
noncomputable def B7H:FD:=⟨278,Tryz.f278,6,⟨[],[],[]⟩,⟨[(0, .d (.it .u64))],[]⟩,⟨[(0, .d (.it .i64))],[]⟩,[.d (.it .i64)],A7E,fun o=>((o,()),()),fun s=>s.1.1⟩
noncomputable def C3l (F:Int→Option A7E):FE:=B7H.fe fun s=>F s.1.1
abbrev A2y:Type:=(List Int)
noncomputable def B0Z:FD:=⟨279,Tryz.f279,40,⟨[(3,[(1, .any),(5, .any),(12, .any),(13, .any),(14, .any)])],[],[]⟩,⟨[(0, .d (.li (.it .u64))),(1, .d (.it .i64))],[]⟩,⟨[(0, .f (.a (.ref 3000)))],[(3000, .own (.it .u64) true)]⟩,[.own (.it .u64)],A2y,fun o=>((),(o,())),fun s=>s.2.1⟩
noncomputable def D4y (F:(List Int)→Int→Option A2y):FE:=B0Z.fe fun s=>F s.1.1 s.1.2.1
abbrev X4:Type:=(Int×(List Int))
noncomputable def A4L:FD:=⟨280,Tryz.f280,186,⟨[(8,[(0, .any),(1, .any),(5, .any),(6, .any),(7, .any),(8, .any)]),(15,[(0, .any),(1, .any),(5, .any),(6, .any),(11, .any),(12, .any),(104, .any),(105, .any)]),(28,[(0, .any),(1, .any),(5, .any),(6, .any),(17, .any),(156, .any),(157, .any)])],[],[]⟩,⟨[(0, .f (.a (.ref 2000))),(1, .d (.li (.it .u64)))],[(2000, .own (.it .u64) false)]⟩,⟨[(0, .d (.it .u64))],[(2000, .own (.it .u64) false)]⟩,[.d (.it .u64)],X4,fun o=>((o.1,()),(o.2,())),fun s=>(s.1.1,s.2.1)⟩
noncomputable def D7o (F:(List Int)→(List Int)→Option X4):FE:=A4L.fe fun s=>F s.1.1 s.2.1
abbrev B3v:Type:=Int
noncomputable def D6v:FD:=⟨297,Tryz.f297,25,⟨[],[],[]⟩,⟨[(0, .d (.it .u64))],[]⟩,⟨[(0, .d (.it .i64))],[]⟩,[.d (.it .i64)],B3v,fun o=>((o,()),()),fun s=>s.1.1⟩
noncomputable def D3A (F:Int→Option B3v):FE:=D6v.fe fun s=>F s.1.1
noncomputable def B15 (x0:TP):Option R15:=some (wrap64 ((x0.length:Int)-1))
theorem e15 (s:D15.ask.T):D15.ev E0 [] [] s=B15 s.1.1:=by kernel_rfl
noncomputable def C3g (x0:TI):Option B0t:=B3 (x0.1) (some (-1)) (B3 ((E6 x0.2 (⟨#[]⟩:ByteArray))) (some 0) (some 1))
theorem E4b (s:C0K.ask.T):C0K.ev E0 [] [] s=C3g s.1.1:=by kernel_rfl
noncomputable def D3Q (c173:TI→Option B0t):List FE:=[D8C c173]
section
variable (c173:TI→Option B0t)
noncomputable def B3J (x0:TQ):Option A5q:=(c173 x0.1).bind fun r1=>(some r1)
theorem E5K (s:B8Q.ask.T):B8Q.ev E0 (D3Q c173) [] s=B3J c173 s.1.1:=by kernel_rfl
end
noncomputable def C4l (x0:ByteArray):Option A6s:=B3 ((E6 x0 (⟨#[]⟩:ByteArray))) (some true) (if(0:Int)≤0 then(if 0<(x0.size:Int)then(some (decide (bt x0 0≠0)))else(none))else(none))
theorem E8z (s:B8N.ask.T):B8N.ev E0 [] [] s=C4l s.1.1:=by kernel_rfl
noncomputable def D7u (c178:ByteArray→Option A6s):List FE:=[C3K c178]
section
variable (c178:ByteArray→Option A6s)
noncomputable def D1M (x0:TI):Option B2T:=(c178 x0.2).bind fun r1=>(B3 (r1) (B3 ((!x0.1)) (some true) (some (!(E6 x0.2 (⟨#[]⟩:ByteArray))))) (some false))
theorem E7Q (s:B8V.ask.T):B8V.ev E0 (D7u c178) [] s=D1M c178 s.1.1:=by kernel_rfl
end
noncomputable def C6L (x0:ByteArray):Option A6k:=if(x0.size:Int)>1024 then(some 4)else(some 0)
theorem E7l (s:B9M.ask.T):B9M.ev E0 [] [] s=C6L s.1.1:=by kernel_rfl
noncomputable def D3t (c218:ByteArray→Option A6k):List FE:=[C4k c218]
section
variable (c218:ByteArray→Option A6k)
noncomputable def C9J (x0:TI):Option B0A:=(c218 x0.2).bind fun r1=>(some r1)
theorem E2R (s:C0F.ask.T):C0F.ev E0 (D3t c218) [] s=C9J c218 s.1.1:=by kernel_rfl
end
noncomputable def D6q (c217:TI→Option B0A) (c218:ByteArray→Option A6k):List FE:=[D6t c217,C4k c218]
section
variable (c217:TI→Option B0A) (c218:ByteArray→Option A6k)
noncomputable def B0x (x0:TQ):Option B1L:=(c217 x0.1).bind fun r1=>(if r1≠0 then(some 4)else((c218 x0.2).bind fun r2=>(some r2)))
theorem E3g (s:B7s.ask.T):B7s.ev E0 (D6q c217 c218) [] s=B0x c217 c218 s.1.1:=by kernel_rfl
end
noncomputable def C6R:Sk:=⟨[(0, .d (.li (.it .u64))),(3, .f (.a (.ref 3))),(4, .d (.it .i64))],[(3, .own (.it .u8) true)]⟩
noncomputable def C2o:Sk:=⟨[(0, .d (.li (.it .u64))),(3, .f (.a (.ref 3))),(4, .d (.it .i64)),(5, .d (.it .i64))],[(3, .own (.it .u8) true)]⟩
noncomputable def B6k (gl0:(List Int)→Int→(List Int)→Option S0) (gl1:(List Int)→Int→Int→(List Int)→Option S0):List (C9 S0):=[⟨3,C6R,fun s=>gl0 s.1.1 s.1.2.1 s.2.1⟩,⟨6,C2o,fun s=>gl1 s.1.1 s.1.2.1 s.1.2.2.1 s.2.1⟩]
section
variable (gl0:(List Int)→Int→(List Int)→Option S0) (gl1:(List Int)→Int→Int→(List Int)→Option S0)
noncomputable def C4m (x0:(List Int)) (x4:Int) (x3:(List Int)):Option S0:=if x4≥0 then(gl1 x0 x4 24 x3)else(some (strOfNums x3))
theorem F3P (s0:C5 A6Z.ask.bl) (s:C6R.T):A6Z.po E0 [] (B6k gl0 gl1) s0 0 (C6R.mk' s)=C4m gl1 s.1.1 s.1.2.1 s.2.1:=by kernel_rfl
noncomputable def C4t (x0:(List Int)) (x4:Int) (x5:Int) (x3:(List Int)):Option S0:=if x5≥0 then(if 0≤x4 then(if x4<(x0.length:Int)then(if 0≤x5 then(if(x3.length:Int)>0 then(if(x3.length+1)*1≤140737488355328 then(gl1 x0 x4 (wrap64 (x5-8)) (x3++([IntKind.u8.wrap (shr .u64 (rd x0 x4) x5)]:List Int)))else(none))else(if IntKind.u8.wrap (shr .u64 (rd x0 x4) x5)>0 then(if(x3.length+1)*1≤140737488355328 then(gl1 x0 x4 (wrap64 (x5-8)) (x3++([IntKind.u8.wrap (shr .u64 (rd x0 x4) x5)]:List Int)))else(none))else(gl1 x0 x4 (wrap64 (x5-8)) x3)))else(none))else(none))else(none))else(gl0 x0 (wrap64 (x4-1)) x3)
theorem E4l (s0:C5 A6Z.ask.bl) (s:C2o.T):A6Z.po E0 [] (B6k gl0 gl1) s0 1 (C2o.mk' s)=C4t gl0 gl1 s.1.1 s.1.2.1 s.1.2.2.1 s.2.1:=by kernel_rfl
noncomputable def C9r (x0:(List Int)):Option S0:=gl0 x0 (wrap64 ((x0.length:Int)-1)) ([]:List Int)
theorem E3v (s:A6Z.ask.T):A6Z.ev E0 [] (B6k gl0 gl1) s=C9r gl0 s.1.1:=by kernel_rfl
end
noncomputable def C5R:Sk:=⟨[(0, .pre 2000)],[(2000, .own (.it .u64) false)]⟩
noncomputable def C5T (gl0:Int→(List Int)→Option A1E):List (C9 A1E):=[⟨1,C5R,fun s=>gl0 s.1.1 s.2.1⟩]
section
variable (gl0:Int→(List Int)→Option A1E)
noncomputable def C5F (x0:Int) (y0:(List Int)):Option A1E:=if x0-0>0 then(if 0≤wrap64 ((x0-0)-1)then(if wrap64 ((x0-0)-1)<x0-0 then(if rd y0 (0+(wrap64 ((x0-0)-1)))=0 then(if(0:Int)≤0 then(if 0≤wrap64 ((x0-0)-1)then(if wrap64 ((x0-0)-1)≤x0-0 then(if x0-0≤x0-0 then(gl0 (0+(wrap64 ((x0-0)-1))) y0)else(none))else(none))else(none))else(none))else(some (x0,y0)))else(none))else(none))else(some (x0,y0))
theorem F7w (s0:C5 B3D.ask.bl) (s:C5R.T):B3D.po E0 [] (C5T gl0) s0 0 (C5R.mk' s)=C5F gl0 s.1.1 s.2.1:=by kernel_rfl
noncomputable def D0E (y0:(List Int)):Option A1E:=gl0 (y0.length:Int) y0
theorem F5L (s:B3D.ask.T):B3D.ev E0 [] (C5T gl0) s=D0E gl0 s.2.1:=by kernel_rfl
end
noncomputable def C3L:Sk:=⟨[(0, .d .st),(3, .f (.a (.ref 3))),(4, .d (.it .i64))],[(3, .own (.it .u64) true)]⟩
noncomputable def C8A:Sk:=⟨[(0, .d .st),(3, .f (.a (.ref 3))),(4, .d (.it .i64)),(5, .d (.it .u64)),(6, .d (.it .i64))],[(3, .own (.it .u64) true)]⟩
noncomputable def B8F (gl0:ByteArray→Int→(List Int)→Option W4) (gl1:ByteArray→Int→Int→Int→(List Int)→Option W4):List (C9 W4):=[⟨3,C3L,fun s=>gl0 s.1.1 s.1.2.1 s.2.1⟩,⟨7,C8A,fun s=>gl1 s.1.1 s.1.2.1 s.1.2.2.1 s.1.2.2.2.1 s.2.1⟩]
noncomputable def B8P (c249:(List Int)→Option A1E):List FE:=[D0p c249]
section
variable (gl0:ByteArray→Int→(List Int)→Option W4) (gl1:ByteArray→Int→Int→Int→(List Int)→Option W4) (c249:(List Int)→Option A1E)
noncomputable def C1m (x0:ByteArray) (x4:Int) (x3:(List Int)):Option W4:=if x4>0 then(gl1 x0 x4 0 (mx 0 (wrap64 (x4-4))) x3)else((c249 x3).bind fun r1=>(some (r1.2.take (r1.1:Int).toNat)))
theorem E3K (s0:C5 A6d.ask.bl) (s:C3L.T):A6d.po E0 (B8P c249) (B8F gl0 gl1) s0 0 (C3L.mk' s)=C1m gl1 c249 s.1.1 s.1.2.1 s.2.1:=by kernel_rfl
noncomputable def C5x (x0:ByteArray) (x4:Int) (x5:Int) (x6:Int) (x3:(List Int)):Option W4:=if x6<x4 then(if 0≤x6 then(if x6<(x0.size:Int)then(gl1 x0 x4 (IntKind.u64.wrap ((IntKind.u64.wrap (x5*256))+(IntKind.u64.wrap (bt x0 x6)))) (wrap64 (x6+1)) x3)else(none))else(none))else(if(x3.length+1)*8≤140737488355328 then(gl0 x0 (wrap64 (x4-4)) (x3++([x5]:List Int)))else(none))
theorem E4N (s0:C5 A6d.ask.bl) (s:C8A.T):A6d.po E0 (B8P c249) (B8F gl0 gl1) s0 1 (C8A.mk' s)=C5x gl0 gl1 s.1.1 s.1.2.1 s.1.2.2.1 s.1.2.2.2.1 s.2.1:=by kernel_rfl
noncomputable def C4W (x0:ByteArray):Option W4:=gl0 x0 (x0.size:Int) ([]:List Int)
theorem F7l (s:A6d.ask.T):A6d.ev E0 (B8P c249) (B8F gl0 gl1) s=C4W gl0 s.1.1:=by kernel_rfl
end
noncomputable def D1G:Sk:=⟨[(0, .pre 2000),(1, .d (.li (.it .u64))),(5, .d (.it .i64))],[(2000, .own (.it .u64) false)]⟩
noncomputable def C6D (gl0:Int→(List Int)→Int→(List Int)→Option A2K):List (C9 A2K):=[⟨5,D1G,fun s=>gl0 s.1.1 s.1.2.1 s.1.2.2.1 s.2.1⟩]
noncomputable def C4n (c249:(List Int)→Option A1E):List FE:=[D0p c249]
section
variable (gl0:Int→(List Int)→Int→(List Int)→Option A2K) (c249:(List Int)→Option A1E)
noncomputable def D1L (x0:Int) (x1:(List Int)) (x5:Int) (y0:(List Int)):Option A2K:=if x5≥0 then(if 0≤x5 then(if x5<x0-0 then(if 0≤x5 then(if x5<(x1.length:Int)then(if rd y0 (0+x5)≠rd x1 x5 then(if 0≤x5 then(if x5<x0-0 then(if 0≤x5 then(if x5<(x1.length:Int)then(some (decide (rd y0 (0+x5)<rd x1 x5),y0))else(none))else(none))else(none))else(none))else(gl0 x0 x1 (wrap64 (x5-1)) y0))else(none))else(none))else(none))else(none))else(some (false,y0))
theorem E8h (s0:C5 B2B.ask.bl) (s:D1G.T):B2B.po E0 (C4n c249) (C6D gl0) s0 0 (D1G.mk' s)=D1L gl0 s.1.1 s.1.2.1 s.1.2.2.1 s.2.1:=by kernel_rfl
noncomputable def C3D (x1:(List Int)) (y0:(List Int)):Option A2K:=(c249 y0).bind fun r1=>(if r1.1-0≠(x1.length:Int)then(some (decide (r1.1-0<(x1.length:Int)),r1.2))else(gl0 r1.1 x1 (wrap64 ((r1.1-0)-1)) r1.2))
theorem F8p (s:B2B.ask.T):B2B.ev E0 (C4n c249) (C6D gl0) s=C3D gl0 c249 s.1.1 s.2.1:=by kernel_rfl
end
noncomputable def C4J:Sk:=⟨[(7, .d (.li (.it .u64))),(8, .d (.it .i64)),(9, .f (.a (.ref 9))),(10, .f (.a (.ref 10))),(11, .d (.it .i64))],[(9, .own (.it .u64) true),(10, .own (.it .u64) true)]⟩
noncomputable def C6y:Sk:=⟨[(7, .d (.li (.it .u64))),(8, .d (.it .i64)),(9, .f (.a (.ref 9))),(10, .f (.a (.ref 10))),(11, .d (.it .i64))],[(9, .own (.it .u64) true),(10, .own (.it .u64) true)]⟩
noncomputable def C6Q:Sk:=⟨[(7, .d (.li (.it .u64))),(8, .d (.it .i64)),(9, .f (.a (.ref 9))),(10, .f (.a (.ref 10))),(11, .d (.it .i64)),(12, .d (.it .u64)),(13, .d (.it .u64)),(14, .d (.it .i64))],[(9, .own (.it .u64) true),(10, .own (.it .u64) true)]⟩
noncomputable def B5s (gl0:(List Int)→Int→Int→(List Int)→(List Int)→Option W3) (gl1:(List Int)→Int→Int→(List Int)→(List Int)→Option W3) (gl2:(List Int)→Int→Int→Int→Int→Int→(List Int)→(List Int)→Option W3):List (C9 W3):=[⟨8,C4J,fun s=>gl0 s.1.1 s.1.2.1 s.1.2.2.1 s.2.1 s.2.2.1⟩,⟨10,C6y,fun s=>gl1 s.1.1 s.1.2.1 s.1.2.2.1 s.2.1 s.2.2.1⟩,⟨15,C6Q,fun s=>gl2 s.1.1 s.1.2.1 s.1.2.2.1 s.1.2.2.2.1 s.1.2.2.2.2.1 s.1.2.2.2.2.2.1 s.2.1 s.2.2.1⟩]
noncomputable def B4y (c221:(List Int)→Option S0) (c229:ByteArray→Option W4) (c230:(List Int)→(List Int)→Option A2K):List FE:=[B0N c221,B4k c229,D2c c230]
section
variable (gl0:(List Int)→Int→Int→(List Int)→(List Int)→Option W3) (gl1:(List Int)→Int→Int→(List Int)→(List Int)→Option W3) (gl2:(List Int)→Int→Int→Int→Int→Int→(List Int)→(List Int)→Option W3) (c221:(List Int)→Option S0) (c229:ByteArray→Option W4) (c230:(List Int)→(List Int)→Option A2K)
noncomputable def D0g (x7:(List Int)) (x8:Int) (x11:Int) (x9:(List Int)) (x10:(List Int)):Option W3:=if x11≥0 then(gl1 x7 x8 x11 x9 x10)else((c221 x10).bind fun r1=>((c221 x9).bind fun r2=>(some (r1,r2))))
theorem F6T (s0:C5 A3n.ask.bl) (s:C4J.T):A3n.po E0 (B4y c221 c229 c230) (B5s gl0 gl1 gl2) s0 0 (C4J.mk' s)=D0g gl1 c221 s.1.1 s.1.2.1 s.1.2.2.1 s.2.1 s.2.2.1:=by kernel_rfl
noncomputable def C9z (x7:(List Int)) (x8:Int) (x11:Int) (x9:(List Int)) (x10:(List Int)):Option W3:=if 0≤x11 then(if x11≤(x9.length:Int)then(if(x9.length:Int)≤(x9.length:Int)then(if(x9.length:Int)≤(x9.length:Int)then((c230 x7 (slice_ x9 x11 (x9.length:Int))).bind fun r1=>(B3 ((!r1.1)) (if 0≤wrap64 (x11+x8)then(if wrap64 (x11+x8)<((x9.take ((x11:Int).toNat)++r1.2++x9.drop (((x9.length:Int):Int).toNat)).length:Int)then(if(0:Int)≤32 then(if 0≤wrap64 ((wrap64 (x11+x8))-1)then(if wrap64 ((wrap64 (x11+x8))-1)<((x9.take ((x11:Int).toNat)++r1.2++x9.drop (((x9.length:Int):Int).toNat)).length:Int)then(if 0≤wrap64 (x8-1)then(if wrap64 (x8-1)<(x7.length:Int)then(if IntKind.u64.wrap ((rd x7 (wrap64 (x8-1)))+1)=0 then(none)else(if 0≤x11 then(if x11<(x10.length:Int)then(if 0≤x11 then(if x11<(x10.length:Int)then(gl2 x7 x8 x11 (mx 1 (IntKind.u64.wrap (Int.tdiv (IntKind.u64.wrap ((IntKind.u64.wrap ((rd (x9.take ((x11:Int).toNat)++r1.2++x9.drop (((x9.length:Int):Int).toNat)) (wrap64 (x11+x8)))*4294967296))+(rd (x9.take ((x11:Int).toNat)++r1.2++x9.drop (((x9.length:Int):Int).toNat)) (wrap64 ((wrap64 (x11+x8))-1))))) (IntKind.u64.wrap ((rd x7 (wrap64 (x8-1)))+1))))) 0 0 (x9.take ((x11:Int).toNat)++r1.2++x9.drop (((x9.length:Int):Int).toNat)) (x10.set (x11:Int).toNat (IntKind.u64.wrap ((rd x10 x11)+(mx 1 (IntKind.u64.wrap (Int.tdiv (IntKind.u64.wrap ((IntKind.u64.wrap ((rd (x9.take ((x11:Int).toNat)++r1.2++x9.drop (((x9.length:Int):Int).toNat)) (wrap64 (x11+x8)))*4294967296))+(rd (x9.take ((x11:Int).toNat)++r1.2++x9.drop (((x9.length:Int):Int).toNat)) (wrap64 ((wrap64 (x11+x8))-1))))) (IntKind.u64.wrap ((rd x7 (wrap64 (x8-1)))+1)))))))))else(none))else(none))else(none))else(none)))else(none))else(none))else(none))else(none))else(none))else(none))else(none)) (gl0 x7 x8 (wrap64 (x11-1)) (x9.take ((x11:Int).toNat)++r1.2++x9.drop (((x9.length:Int):Int).toNat)) x10)))else(none))else(none))else(none))else(none)
theorem F5W (s0:C5 A3n.ask.bl) (s:C6y.T):A3n.po E0 (B4y c221 c229 c230) (B5s gl0 gl1 gl2) s0 1 (C6y.mk' s)=C9z gl0 gl2 c230 s.1.1 s.1.2.1 s.1.2.2.1 s.2.1 s.2.2.1:=by kernel_rfl
noncomputable def C8k (x7:(List Int)) (x8:Int) (x11:Int) (x12:Int) (x13:Int) (x14:Int) (x9:(List Int)) (x10:(List Int)):Option W3:=if x14<x8 then(if 0≤x14 then(if x14<(x7.length:Int)then(if(0:Int)≤32 then(if 0≤wrap64 (x11+x14)then(if wrap64 (x11+x14)<(x9.length:Int)then(if rd x9 (wrap64 (x11+x14))<Go.bits .and .u64 (IntKind.u64.wrap ((IntKind.u64.wrap ((rd x7 x14)*x12))+x13)) 4294967295 then(if 0≤wrap64 (x11+x14)then(if wrap64 (x11+x14)<(x9.length:Int)then(if 0≤wrap64 (x11+x14)then(if wrap64 (x11+x14)<(x9.length:Int)then(if 0≤wrap64 (x11+x14)then(if wrap64 (x11+x14)<((x9.set (wrap64 (x11+x14):Int).toNat (IntKind.u64.wrap ((rd x9 (wrap64 (x11+x14)))+4294967296))).length:Int)then(if 0≤wrap64 (x11+x14)then(if wrap64 (x11+x14)<((x9.set (wrap64 (x11+x14):Int).toNat (IntKind.u64.wrap ((rd x9 (wrap64 (x11+x14)))+4294967296))).length:Int)then(gl2 x7 x8 x11 x12 (IntKind.u64.wrap (((IntKind.u64.wrap ((IntKind.u64.wrap ((rd x7 x14)*x12))+x13))/4294967296)+1)) (wrap64 (x14+1)) ((x9.set (wrap64 (x11+x14):Int).toNat (IntKind.u64.wrap ((rd x9 (wrap64 (x11+x14)))+4294967296))).set (wrap64 (x11+x14):Int).toNat (IntKind.u64.wrap ((rd (x9.set (wrap64 (x11+x14):Int).toNat (IntKind.u64.wrap ((rd x9 (wrap64 (x11+x14)))+4294967296))) (wrap64 (x11+x14)))-(Go.bits .and .u64 (IntKind.u64.wrap ((IntKind.u64.wrap ((rd x7 x14)*x12))+x13)) 4294967295)))) x10)else(none))else(none))else(none))else(none))else(none))else(none))else(none))else(none))else(if 0≤wrap64 (x11+x14)then(if wrap64 (x11+x14)<(x9.length:Int)then(if 0≤wrap64 (x11+x14)then(if wrap64 (x11+x14)<(x9.length:Int)then(gl2 x7 x8 x11 x12 ((IntKind.u64.wrap ((IntKind.u64.wrap ((rd x7 x14)*x12))+x13))/4294967296) (wrap64 (x14+1)) (x9.set (wrap64 (x11+x14):Int).toNat (IntKind.u64.wrap ((rd x9 (wrap64 (x11+x14)))-(Go.bits .and .u64 (IntKind.u64.wrap ((IntKind.u64.wrap ((rd x7 x14)*x12))+x13)) 4294967295)))) x10)else(none))else(none))else(none))else(none)))else(none))else(none))else(none))else(none))else(none))else(if 0≤wrap64 (x11+x8)then(if wrap64 (x11+x8)<(x9.length:Int)then(if 0≤wrap64 (x11+x8)then(if wrap64 (x11+x8)<(x9.length:Int)then(gl1 x7 x8 x11 (x9.set (wrap64 (x11+x8):Int).toNat (IntKind.u64.wrap ((rd x9 (wrap64 (x11+x8)))-x13))) x10)else(none))else(none))else(none))else(none))
theorem E8y (s0:C5 A3n.ask.bl) (s:C6Q.T):A3n.po E0 (B4y c221 c229 c230) (B5s gl0 gl1 gl2) s0 2 (C6Q.mk' s)=C8k gl1 gl2 s.1.1 s.1.2.1 s.1.2.2.1 s.1.2.2.2.1 s.1.2.2.2.2.1 s.1.2.2.2.2.2.1 s.2.1 s.2.2.1:=by kernel_rfl
noncomputable def C1T (x0:ByteArray) (x1:ByteArray):Option W3:=B3 ((E6 x1 (⟨#[]⟩:ByteArray))) (some ((⟨#[]⟩:ByteArray),(⟨#[]⟩:ByteArray))) ((c229 x0).bind fun r1=>((c229 x1).bind fun r2=>(if(r1.length+1)*8≤140737488355328 then(if 0≤mx 0 (wrap64 ((wrap64 ((r1.length:Int)-(r2.length:Int)))+1))then(if mx 0 (wrap64 ((wrap64 ((r1.length:Int)-(r2.length:Int)))+1))≤mx 0 (wrap64 ((wrap64 ((r1.length:Int)-(r2.length:Int)))+1))then(if(mx 0 (wrap64 ((wrap64 ((r1.length:Int)-(r2.length:Int)))+1)):Int).toNat≤35184372088832 then(gl0 r2 (r2.length:Int) (wrap64 (((List.replicate (mx 0 (wrap64 ((wrap64 ((r1.length:Int)-(r2.length:Int)))+1)):Int).toNat (0:Int)).length:Int)-1)) (r1++([0]:List Int)) (List.replicate (mx 0 (wrap64 ((wrap64 ((r1.length:Int)-(r2.length:Int)))+1)):Int).toNat (0:Int)))else(none))else(none))else(none))else(none))))
theorem F0F (s:A3n.ask.T):A3n.ev E0 (B4y c221 c229 c230) (B5s gl0 gl1 gl2) s=C1T gl0 c229 s.1.1 s.1.2.1:=by kernel_rfl
end
noncomputable def C8s:Sk:=⟨[(0, .d .st),(1, .d .st)],[]⟩
noncomputable def C8d (gl0:ByteArray→ByteArray→Option A0x):List (C9 A0x):=[⟨1,C8s,fun s=>gl0 s.1.1 s.1.2.1⟩]
noncomputable def C5f (c203:ByteArray→ByteArray→Option W3):List FE:=[C2t c203]
section
variable (gl0:ByteArray→ByteArray→Option A0x) (c203:ByteArray→ByteArray→Option W3)
noncomputable def C1j (x0:ByteArray) (x1:ByteArray):Option A0x:=B3 ((!(E6 x1 (⟨#[]⟩:ByteArray)))) ((c203 x0 x1).bind fun r1=>(gl0 x1 r1.2)) (some x0)
theorem E5o (s0:C5 B0h.ask.bl) (s:C8s.T):B0h.po E0 (C5f c203) (C8d gl0) s0 0 (C8s.mk' s)=C1j gl0 c203 s.1.1 s.1.2.1:=by kernel_rfl
noncomputable def C2v (x0:ByteArray) (x1:ByteArray):Option A0x:=gl0 x0 x1
theorem F5n (s:B0h.ask.T):B0h.ev E0 (C5f c203) (C8d gl0) s=C2v gl0 s.1.1 s.1.2.1:=by kernel_rfl
end
noncomputable def D7q (c177:TI→Option B2T) (c178:ByteArray→Option A6s) (c179:TQ→Option B1L) (c180:ByteArray→ByteArray→Option A0x):List FE:=[D5L c177,C3K c178,D2V c179,C9f c180]
section
variable (c177:TI→Option B2T) (c178:ByteArray→Option A6s) (c179:TQ→Option B1L) (c180:ByteArray→ByteArray→Option A0x)
noncomputable def A5C (x0:TQ):Option A6F:=(c177 x0.1).bind fun r1=>(B3 ((!r1)) (some 1) ((c178 x0.2).bind fun r2=>(B3 ((!r2)) (some 1) (B3 ((E6 x0.2 (⟨#[]⟩:ByteArray))) (some 1) ((c179 x0).bind fun r3=>(if r3≠0 then(some 4)else((c180 x0.1.2 x0.2).bind fun r4=>(B3 ((!(E6 r4 (⟨#[1]⟩:ByteArray)))) (some 1) (some 0)))))))))
theorem E4a (s:B6L.ask.T):B6L.ev E0 (D7q c177 c178 c179 c180) [] s=A5C c177 c178 c179 c180 s.1.1:=by kernel_rfl
end
noncomputable def C6A:Sk:=⟨[(0, .d (.li tQ)),(9, .d (.li tQ)),(10, .d (.it .i64)),(11, .d (.it .i64))],[]⟩
noncomputable def C7c (gl0:TP→TP→Int→Int→Option v9):List (C9 v9):=[⟨4,C6A,fun s=>gl0 s.1.1 s.1.2.1 s.1.2.2.1 s.1.2.2.2.1⟩]
noncomputable def C7d (c123:TQ→Option A5q) (c135:TQ→Option A6F):List FE:=[C3P c123,C2U c135]
section
variable (gl0:TP→TP→Int→Int→Option v9) (c123:TQ→Option A5q) (c135:TQ→Option A6F)
noncomputable def A7T (x0:TP) (x9:TP) (x10:Int) (x11:Int):Option v9:=if x11<x10 then(if 0≤x11 then(if x11<(x9.length:Int)then((c135 (C4 ((false,(⟨#[]⟩:ByteArray)),(⟨#[]⟩:ByteArray)) x9 x11)).bind fun r1=>(if r1≠0 then(some r1)else(gl0 x0 x9 x10 (wrap64 (x11+1)))))else(none))else(none))else(if(x0.length:Int)>0 then(if 0≤wrap64 ((x0.length:Int)-1)then(if wrap64 ((x0.length:Int)-1)<(x0.length:Int)then((c123 (C4 ((false,(⟨#[]⟩:ByteArray)),(⟨#[]⟩:ByteArray)) x0 (wrap64 ((x0.length:Int)-1)))).bind fun r2=>(if r2=0 then(some 1)else(some 0)))else(none))else(none))else(some 0))
theorem F1F (s0:C5 D69.ask.bl) (s:C6A.T):D69.po E0 (C7d c123 c135) (C7c gl0) s0 0 (C6A.mk' s)=A7T gl0 c123 c135 s.1.1 s.1.2.1 s.1.2.2.1 s.1.2.2.2.1:=by kernel_rfl
noncomputable def B69 (x0:TP):Option v9:=if(x0.length:Int)>65 then(some 4)else(gl0 x0 x0 (x0.length:Int) 0)
theorem e69 (s:D69.ask.T):D69.ev E0 (C7d c123 c135) (C7c gl0) s=B69 gl0 s.1.1:=by kernel_rfl
end
noncomputable def D9L (c221:(List Int)→Option S0):List FE:=[B0N c221]
section
variable (c221:(List Int)→Option S0)
noncomputable def C6o (x0:Int):Option B2i:=if(0:Int)≤32 then((c221 ([Go.bits .and .u64 x0 4294967295,x0/4294967296]:List Int)).bind fun r1=>(some r1))else(none)
theorem E1Y (s:B7N.ask.T):B7N.ev E0 (D9L c221) [] s=C6o c221 s.1.1:=by kernel_rfl
end
noncomputable def D9O (c183:Int→Option B2i):List FE:=[D7S c183]
section
variable (c183:Int→Option B2i)
noncomputable def C8J (x0:Int):Option B1O:=if x0<0 then((c183 (IntKind.u64.wrap ((IntKind.u64.wrap (wrap64 (0-(wrap64 (x0+1)))))+1))).bind fun r1=>(some (true,r1)))else((c183 (IntKind.u64.wrap (x0))).bind fun r2=>(some (false,r2)))
theorem E6I (s:B8J.ask.T):B8J.ev E0 (D9O c183) [] s=C8J c183 s.1.1:=by kernel_rfl
end
noncomputable def D5g (c141:Int→Option B1O):List FE:=[D9d c141]
section
variable (c141:Int→Option B1O)
noncomputable def B81 (x0:Int):Option Z5:=(c141 x0).bind fun r1=>(some ((r1.1,r1.2),(⟨#[1]⟩:ByteArray)))
theorem e81 (s:D81.ask.T):D81.ev E0 (D5g c141) [] s=B81 c141 s.1.1:=by kernel_rfl
end
noncomputable def D4A (c81:Int→Option Z5):List FE:=[A5y c81]
section
variable (c81:Int→Option Z5)
noncomputable def B80 (x0:TP):Option R80:=if(x0.length:Int)=0 then((c81 0).bind fun r1=>(some (r1.1,r1.2)))else(if 0≤wrap64 ((x0.length:Int)-1)then(if wrap64 ((x0.length:Int)-1)<(x0.length:Int)then(some ((C4 ((false,(⟨#[]⟩:ByteArray)),(⟨#[]⟩:ByteArray)) x0 (wrap64 ((x0.length:Int)-1))).1,(C4 ((false,(⟨#[]⟩:ByteArray)),(⟨#[]⟩:ByteArray)) x0 (wrap64 ((x0.length:Int)-1))).2))else(none))else(none))
theorem e80 (s:D80.ask.T):D80.ev E0 (D4A c81) [] s=B80 c81 s.1.1:=by kernel_rfl
end
noncomputable def B82 (x0:TQ):Option R82:=some (E6 x0.2 (⟨#[1]⟩:ByteArray))
theorem e82 (s:D82.ask.T):D82.ev E0 [] [] s=B82 s.1.1:=by kernel_rfl
noncomputable def C6T:Sk:=⟨[(1, .f (.a (.ptr 1 0 []))),(24, .d (.li tQ)),(25, .d (.it .i64)),(26, .d (.it .i64))],[(1, .cell (.ag (.li tQ)) true)]⟩
noncomputable def C5D (gl0:TP→Int→Int→TP→Option T9):List (C9 T9):=[⟨7,C6T,fun s=>gl0 s.1.1 s.1.2.1 s.1.2.2.1 s.2.1⟩]
noncomputable def C7g (c15:TP→Option R15) (c69:TP→Option v9) (c80:TP→Option R80) (c81:Int→Option Z5) (c82:TQ→Option R82):List FE:=[B8X c15,C1D c69,C3A c80,A5y c81,D7G c82]
section
variable (gl0:TP→Int→Int→TP→Option T9) (c15:TP→Option R15) (c69:TP→Option v9) (c80:TP→Option R80) (c81:Int→Option Z5) (c82:TQ→Option R82)
noncomputable def A8b (x24:TP) (x25:Int) (x26:Int) (x1:TP):Option T9:=if x26<x25 then(if 0≤x26 then(if x26<(x24.length:Int)then((c82 (C4 ((false,(⟨#[]⟩:ByteArray)),(⟨#[]⟩:ByteArray)) x24 x26)).bind fun r1=>(B3 ((!r1)) (some 1) (gl0 x24 x25 (wrap64 (x26+1)) x1)))else(none))else(none))else((c15 x1).bind fun r2=>(if r2>24 then(some 4)else(some 0)))
theorem E0Z (s0:C5 D13.ask.bl) (s:C6T.T):D13.po E0 (C7g c15 c69 c80 c81 c82) (C5D gl0) s0 0 (C6T.mk' s)=A8b gl0 c15 c82 s.1.1 s.1.2.1 s.1.2.2.1 s.2.1:=by kernel_rfl
noncomputable def B13 (x0:TP):Option T9:=(c69 x0).bind fun r1=>(if r1≠0 then(some r1)else(if(x0.length:Int)<2 then(some 1)else((c80 x0).bind fun r2=>((c81 1).bind fun r3=>(B3 ((!(((r2.1.1==r3.1.1)&&(E6 r2.1.2 r3.1.2))&&(E6 r2.2 r3.2)))) (some 1) (gl0 x0 (x0.length:Int) 0 x0))))))
theorem e13 (s:D13.ask.T):D13.ev E0 (C7g c15 c69 c80 c81 c82) (C5D gl0) s=B13 gl0 c69 c80 c81 s.1.1:=by kernel_rfl
end
noncomputable def D7g (c13:TP→Option T9) (c15:TP→Option R15) (c69:TP→Option v9):List FE:=[A7g c13,B8X c15,C1D c69]
section
variable (c13:TP→Option T9) (c15:TP→Option R15) (c69:TP→Option v9)
noncomputable def B55 (x0:TP) (x1:TP):Option R55:=(c13 x0).bind fun r1=>(if r1≠0 then(some r1)else((c69 x1).bind fun r2=>(if r2=0 then((c15 x0).bind fun r3=>(if(x1.length:Int)>r3 then(some 3)else(some r2)))else(some r2))))
theorem e55 (s:D55.ask.T):D55.ev E0 (D7g c13 c15 c69) [] s=B55 c13 c15 c69 s.1.1 s.1.2.1:=by kernel_rfl
end
noncomputable def C6c:Sk:=⟨[(1, .d (.li (.li tQ))),(2, .f (.a (.ptr 2 0 []))),(16, .d (.li (.li tQ))),(17, .d (.it .i64)),(18, .d (.it .i64))],[(2, .cell (.ag (.li tQ)) true)]⟩
noncomputable def C3i (gl0:TF→TF→Int→Int→TP→Option v6):List (C9 v6):=[⟨7,C6c,fun s=>gl0 s.1.1 s.1.2.1 s.1.2.2.1 s.1.2.2.2.1 s.2.1⟩]
noncomputable def C5t (c13:TP→Option T9) (c55:TP→TP→Option R55):List FE:=[A7g c13,B6a c55]
section
variable (gl0:TF→TF→Int→Int→TP→Option v6) (c13:TP→Option T9) (c55:TP→TP→Option R55)
noncomputable def A8y (x1:TF) (x16:TF) (x17:Int) (x18:Int) (x2:TP):Option v6:=if x18<x17 then(if 0≤x18 then(if x18<(x16.length:Int)then((c55 x2 (C4 ([]:List TQ) x16 x18)).bind fun r1=>(if r1≠0 then(some r1)else(gl0 x1 x16 x17 (wrap64 (x18+1)) x2)))else(none))else(none))else(if(x1.length:Int)>0 then(if 0≤wrap64 ((x1.length:Int)-1)then(if wrap64 ((x1.length:Int)-1)<(x1.length:Int)then(if((C4 ([]:List TQ) x1 (wrap64 ((x1.length:Int)-1))).length:Int)=0 then(some 1)else(some 0))else(none))else(none))else(some 0))
theorem F2c (s0:C5 D14.ask.bl) (s:C6c.T):D14.po E0 (C5t c13 c55) (C3i gl0) s0 0 (C6c.mk' s)=A8y gl0 c55 s.1.1 s.1.2.1 s.1.2.2.1 s.1.2.2.2.1 s.2.1:=by kernel_rfl
noncomputable def B14 (x0:TP) (x1:TF):Option v6:=(c13 x0).bind fun r1=>(if r1≠0 then(some r1)else(if(x1.length:Int)>65 then(some 4)else(gl0 x1 x1 (x1.length:Int) 0 x0)))
theorem e14 (s:D14.ask.T):D14.ev E0 (C5t c13 c55) (C3i gl0) s=B14 gl0 c13 s.1.1 s.1.2.1:=by kernel_rfl
end
noncomputable def C4F:Sk:=⟨[(17, .d (.li tQ)),(18, .d (.it .i64)),(19, .d (.it .i64))],[]⟩
noncomputable def C7Q (gl0:TP→Int→Int→Option R70):List (C9 R70):=[⟨4,C4F,fun s=>gl0 s.1.1 s.1.2.1 s.1.2.2.1⟩]
noncomputable def D1J (c69:TP→Option v9):List FE:=[C1D c69]
section
variable (gl0:TP→Int→Int→Option R70) (c69:TP→Option v9)
noncomputable def A8m (x17:TP) (x18:Int) (x19:Int):Option R70:=if x19<x18 then(if 0≤x19 then(if x19<(x17.length:Int)then(if((((C4 ((false,(⟨#[]⟩:ByteArray)),(⟨#[]⟩:ByteArray)) x17 x19).1).2).size:Int)>8 then(some false)else(if(((C4 ((false,(⟨#[]⟩:ByteArray)),(⟨#[]⟩:ByteArray)) x17 x19).2).size:Int)>8 then(some false)else(gl0 x17 x18 (wrap64 (x19+1)))))else(none))else(none))else(some true)
theorem E0I (s0:C5 D70.ask.bl) (s:C4F.T):D70.po E0 (D1J c69) (C7Q gl0) s0 0 (C4F.mk' s)=A8m gl0 s.1.1 s.1.2.1 s.1.2.2.1:=by kernel_rfl
noncomputable def B70 (x0:TP) (x1:Int):Option R70:=if(x0.length:Int)>wrap64 (x1+1)then(some false)else((c69 x0).bind fun r1=>(if r1≠0 then(some false)else(gl0 x0 (x0.length:Int) 0)))
theorem e70 (s:D70.ask.T):D70.ev E0 (D1J c69) (C7Q gl0) s=B70 gl0 c69 s.1.1 s.1.2.1:=by kernel_rfl
end
noncomputable def D5m (c13:TP→Option T9) (c15:TP→Option R15) (c70:TP→Int→Option R70):List FE:=[A7g c13,B8X c15,D5N c70]
section
variable (c13:TP→Option T9) (c15:TP→Option R15) (c70:TP→Int→Option R70)
noncomputable def B49 (x0:TP) (x1:TP):Option R49:=(c13 x0).bind fun r1=>(if r1=0 then((c15 x0).bind fun r2=>(if(x1.length:Int)≤r2 then((c15 x0).bind fun r3=>((c70 x1 r3).bind fun r4=>(some r4)))else(some false)))else(some false))
theorem e49 (s:D49.ask.T):D49.ev E0 (D5m c13 c15 c70) [] s=B49 c13 c15 c70 s.1.1 s.1.2.1:=by kernel_rfl
end
noncomputable def C9A:Sk:=⟨[(19, .d (.li tQ)),(20, .d (.it .i64)),(21, .d (.it .i64))],[]⟩
noncomputable def C7S (gl0:TP→Int→Int→Option R79):List (C9 R79):=[⟨4,C9A,fun s=>gl0 s.1.1 s.1.2.1 s.1.2.2.1⟩]
noncomputable def C4E (c13:TP→Option T9):List FE:=[A7g c13]
section
variable (gl0:TP→Int→Int→Option R79) (c13:TP→Option T9)
noncomputable def A9R (x19:TP) (x20:Int) (x21:Int):Option R79:=if x21<x20 then(if 0≤x21 then(if x21<(x19.length:Int)then(if((((C4 ((false,(⟨#[]⟩:ByteArray)),(⟨#[]⟩:ByteArray)) x19 x21).1).2).size:Int)>4 then(some false)else(gl0 x19 x20 (wrap64 (x21+1))))else(none))else(none))else(some true)
theorem F7f (s0:C5 D79.ask.bl) (s:C9A.T):D79.po E0 (C4E c13) (C7S gl0) s0 0 (C9A.mk' s)=A9R gl0 s.1.1 s.1.2.1 s.1.2.2.1:=by kernel_rfl
noncomputable def B79 (x0:TP) (x1:Int):Option R79:=if(x0.length:Int)>wrap64 (x1+1)then(some false)else((c13 x0).bind fun r1=>(if r1≠0 then(some false)else(gl0 x0 (x0.length:Int) 0)))
theorem e79 (s:D79.ask.T):D79.ev E0 (C4E c13) (C7S gl0) s=B79 gl0 c13 s.1.1 s.1.2.1:=by kernel_rfl
end
noncomputable def C8j:Sk:=⟨[(4, .f (.a (.ptr 4 0 []))),(28, .d (.li (.li tQ))),(29, .d (.it .i64)),(30, .d (.it .i64))],[(4, .cell (.ag (.li tQ)) true)]⟩
noncomputable def C6i (gl0:TF→Int→Int→TP→Option R26):List (C9 R26):=[⟨4,C8j,fun s=>gl0 s.1.1 s.1.2.1 s.1.2.2.1 s.2.1⟩]
noncomputable def C5U (c14:TP→TF→Option v6) (c49:TP→TP→Option R49) (c79:TP→Int→Option R79):List FE:=[B6u c14,C8f c49,C1g c79]
section
variable (gl0:TF→Int→Int→TP→Option R26) (c14:TP→TF→Option v6) (c49:TP→TP→Option R49) (c79:TP→Int→Option R79)
noncomputable def A9P (x28:TF) (x29:Int) (x30:Int) (x4:TP):Option R26:=if x30<x29 then(if 0≤x30 then(if x30<(x28.length:Int)then((c49 x4 (C4 ([]:List TQ) x28 x30)).bind fun r1=>(B3 ((!r1)) (some false) (gl0 x28 x29 (wrap64 (x30+1)) x4)))else(none))else(none))else(some true)
theorem E3y (s0:C5 D26.ask.bl) (s:C8j.T):D26.po E0 (C5U c14 c49 c79) (C6i gl0) s0 0 (C8j.mk' s)=A9P gl0 c49 s.1.1 s.1.2.1 s.1.2.2.1 s.2.1:=by kernel_rfl
noncomputable def B26 (x0:TP) (x1:TF) (x2:Int) (x3:Int):Option R26:=(c79 x0 x2).bind fun r1=>(B3 ((!r1)) (some false) (if(x1.length:Int)>wrap64 (x3+1)then(some false)else((c14 x0 x1).bind fun r2=>(if r2≠0 then(some false)else(gl0 x1 (x1.length:Int) 0 x0)))))
theorem e26 (s:D26.ask.T):D26.ev E0 (C5U c14 c49 c79) (C6i gl0) s=B26 gl0 c14 c79 s.1.1 s.1.2.1 s.1.2.2.1 s.1.2.2.2.1:=by kernel_rfl
end
noncomputable def C5J:Sk:=⟨[(2, .f (.a (.ptr 2 0 []))),(10, .d (.li (.li (.li tQ)))),(11, .d (.it .i64)),(12, .d (.it .i64))],[(2, .cell (.ag (.li tQ)) true)]⟩
noncomputable def C2j (gl0:(List TF)→Int→Int→TP→Option R12):List (C9 R12):=[⟨4,C5J,fun s=>gl0 s.1.1 s.1.2.1 s.1.2.2.1 s.2.1⟩]
noncomputable def C9L (c13:TP→Option T9) (c14:TP→TF→Option v6) (c26:TP→TF→Int→Int→Option R26) (c79:TP→Int→Option R79):List FE:=[A7g c13,B6u c14,D7A c26,C1g c79]
section
variable (gl0:(List TF)→Int→Int→TP→Option R12) (c13:TP→Option T9) (c14:TP→TF→Option v6) (c26:TP→TF→Int→Int→Option R26) (c79:TP→Int→Option R79)
noncomputable def A9p (x10:(List TF)) (x11:Int) (x12:Int) (x2:TP):Option R12:=if x12<x11 then(if 0≤x12 then(if x12<(x10.length:Int)then((c14 x2 (C4 ([]:List TP) x10 x12)).bind fun r1=>(if r1=0 then((c26 x2 (C4 ([]:List TP) x10 x12) 4 4).bind fun r2=>(B3 ((!r2)) (some true) (gl0 x10 x11 (wrap64 (x12+1)) x2)))else(gl0 x10 x11 (wrap64 (x12+1)) x2)))else(none))else(none))else((c79 x2 4).bind fun r3=>(some (!r3)))
theorem E6J (s0:C5 D12.ask.bl) (s:C5J.T):D12.po E0 (C9L c13 c14 c26 c79) (C2j gl0) s0 0 (C5J.mk' s)=A9p gl0 c14 c26 c79 s.1.1 s.1.2.1 s.1.2.2.1 s.2.1:=by kernel_rfl
noncomputable def B12 (x0:TP) (x1:(List TF)):Option R12:=(c13 x0).bind fun r1=>(if r1≠0 then(some false)else(gl0 x1 (x1.length:Int) 0 x0))
theorem e12 (s:D12.ask.T):D12.ev E0 (C9L c13 c14 c26 c79) (C2j gl0) s=B12 gl0 c13 s.1.1 s.1.2.1:=by kernel_rfl
end
noncomputable def A4H (x0:TI):Option A4B:=some (x0,(⟨#[1]⟩:ByteArray))
theorem F5g (s:B9a.ask.T):B9a.ev E0 [] [] s=A4H s.1.1:=by kernel_rfl
noncomputable def C7x:Sk:=⟨[(0, .d (.li (.it .u64))),(3, .d (.it .i64))],[]⟩
noncomputable def D0b (gl0:(List Int)→Int→Option A2g):List (C9 A2g):=[⟨2,C7x,fun s=>gl0 s.1.1 s.1.2.1⟩]
section
variable (gl0:(List Int)→Int→Option A2g)
noncomputable def C8r (x0:(List Int)) (x3:Int):Option A2g:=if x3>0 then(if 0≤wrap64 (x3-1)then(if wrap64 (x3-1)<(x0.length:Int)then(if rd x0 (wrap64 (x3-1))=0 then(gl0 x0 (wrap64 (x3-1)))else(if(0:Int)≤0 then(if 0≤x3 then(if x3≤(x0.length:Int)then(if(x0.length:Int)≤(x0.length:Int)then(some (slice_ x0 0 x3))else(none))else(none))else(none))else(none)))else(none))else(none))else(if(0:Int)≤0 then(if 0≤x3 then(if x3≤(x0.length:Int)then(if(x0.length:Int)≤(x0.length:Int)then(some (slice_ x0 0 x3))else(none))else(none))else(none))else(none))
theorem E7K (s0:C5 B0a.ask.bl) (s:C7x.T):B0a.po E0 [] (D0b gl0) s0 0 (C7x.mk' s)=C8r gl0 s.1.1 s.1.2.1:=by kernel_rfl
noncomputable def C6B (x0:(List Int)):Option A2g:=gl0 x0 (x0.length:Int)
theorem E3f (s:B0a.ask.T):B0a.ev E0 [] (D0b gl0) s=C6B gl0 s.1.1:=by kernel_rfl
end
noncomputable def C6j:Sk:=⟨[(3, .f (.a (.ref 3))),(17, .d (.li (.it .u64))),(18, .d (.it .i64)),(19, .d (.it .i64))],[(3, .own (.it .u8) true)]⟩
noncomputable def C7K:Sk:=⟨[(3, .f (.a (.ref 3))),(4, .d (.it .i64)),(5, .d (.it .u64)),(17, .d (.li (.it .u64))),(18, .d (.it .i64)),(19, .d (.it .i64)),(24, .d (.it .i64))],[(3, .own (.it .u8) true)]⟩
noncomputable def C2G:Sk:=⟨[(3, .f (.a (.ref 3))),(7, .d (.it .i64))],[(3, .own (.it .u8) true)]⟩
noncomputable def B3a (gl0:(List Int)→Int→Int→(List Int)→Option L8) (gl1:Int→Int→(List Int)→Int→Int→Int→(List Int)→Option L8) (gl2:Int→(List Int)→Option L8):List (C9 L8):=[⟨6,C6j,fun s=>gl0 s.1.1 s.1.2.1 s.1.2.2.1 s.2.1⟩,⟨9,C7K,fun s=>gl1 s.1.1 s.1.2.1 s.1.2.2.1 s.1.2.2.2.1 s.1.2.2.2.2.1 s.1.2.2.2.2.2.1 s.2.1⟩,⟨15,C2G,fun s=>gl2 s.1.1 s.2.1⟩]
noncomputable def B4z (c245v:(List Int)→Option A2g):List FE:=[D9E c245v]
section
variable (gl0:(List Int)→Int→Int→(List Int)→Option L8) (gl1:Int→Int→(List Int)→Int→Int→Int→(List Int)→Option L8) (gl2:Int→(List Int)→Option L8) (c245v:(List Int)→Option A2g)
noncomputable def C4s (x17:(List Int)) (x18:Int) (x19:Int) (x3:(List Int)):Option L8:=if x19<x18 then(if 0≤x19 then(if x19<(x17.length:Int)then(gl1 x19 (rd x17 x19) x17 x18 x19 0 x3)else(none))else(none))else(gl2 0 x3)
theorem F4n (s0:C5 A3p.ask.bl) (s:C6j.T):A3p.po E0 (B4z c245v) (B3a gl0 gl1 gl2) s0 0 (C6j.mk' s)=C4s gl1 gl2 s.1.1 s.1.2.1 s.1.2.2.1 s.2.1:=by kernel_rfl
noncomputable def C3s (x4:Int) (x5:Int) (x17:(List Int)) (x18:Int) (x19:Int) (x24:Int) (x3:(List Int)):Option L8:=if x24<8 then(if 0≤wrap64 (8*x24)then(if 0≤wrap64 ((wrap64 ((wrap64 ((x3.length:Int)-1))-(wrap64 (8*x4))))-x24)then(if wrap64 ((wrap64 ((wrap64 ((x3.length:Int)-1))-(wrap64 (8*x4))))-x24)<(x3.length:Int)then(gl1 x4 x5 x17 x18 x19 (wrap64 (x24+1)) (x3.set (wrap64 ((wrap64 ((wrap64 ((x3.length:Int)-1))-(wrap64 (8*x4))))-x24):Int).toNat (IntKind.u8.wrap (shr .u64 x5 (wrap64 (8*x24))))))else(none))else(none))else(none))else(gl0 x17 x18 (wrap64 (x19+1)) x3)
theorem E7Z (s0:C5 A3p.ask.bl) (s:C7K.T):A3p.po E0 (B4z c245v) (B3a gl0 gl1 gl2) s0 1 (C7K.mk' s)=C3s gl0 gl1 s.1.1 s.1.2.1 s.1.2.2.1 s.1.2.2.2.1 s.1.2.2.2.2.1 s.1.2.2.2.2.2.1 s.2.1:=by kernel_rfl
noncomputable def C5p (x7:Int) (x3:(List Int)):Option L8:=if 0≤x7 then(if x7<(x3.length:Int)then(if rd x3 x7=0 then(gl2 (wrap64 (x7+1)) x3)else(if 0≤x7 then(if x7≤(x3.length:Int)then(if(x3.length:Int)≤(x3.length:Int)then(if(x3.length:Int)≤(x3.length:Int)then(some (strOfNums (slice_ x3 x7 (x3.length:Int))))else(none))else(none))else(none))else(none)))else(none))else(none)
theorem E0L (s0:C5 A3p.ask.bl) (s:C2G.T):A3p.po E0 (B4z c245v) (B3a gl0 gl1 gl2) s0 2 (C2G.mk' s)=C5p gl2 s.1.1 s.2.1:=by kernel_rfl
noncomputable def C6l (x0:(List Int)):Option L8:=(c245v x0).bind fun r1=>(if(r1.length:Int)=0 then(some (⟨#[]⟩:ByteArray))else(if 0≤wrap64 (8*(r1.length:Int))then(if wrap64 (8*(r1.length:Int))≤wrap64 (8*(r1.length:Int))then(if(wrap64 (8*(r1.length:Int)):Int).toNat≤281474976710656 then(gl0 r1 (r1.length:Int) 0 (List.replicate (wrap64 (8*(r1.length:Int)):Int).toNat (0:Int)))else(none))else(none))else(none)))
theorem F4R (s:A3p.ask.T):A3p.ev E0 (B4z c245v) (B3a gl0 gl1 gl2) s=C6l gl0 c245v s.1.1:=by kernel_rfl
end
noncomputable def D9l (c223:(List Int)→Option L8):List FE:=[A7I c223]
section
variable (c223:(List Int)→Option L8)
noncomputable def C7q (x0:Int):Option B2A:=(c223 ([x0]:List Int)).bind fun r1=>(some r1)
theorem E5e (s:B8f.ask.T):B8f.ev E0 (D9l c223) [] s=C7q c223 s.1.1:=by kernel_rfl
end
noncomputable def D7p (c193:Int→Option B2A):List FE:=[D9C c193]
section
variable (c193:Int→Option B2A)
noncomputable def C1X (x0:Int):Option A9x:=if x0<0 then((c193 (IntKind.u64.wrap (0-(IntKind.u64.wrap (x0))))).bind fun r1=>(some (true,r1)))else((c193 (IntKind.u64.wrap (x0))).bind fun r2=>(some (false,r2)))
theorem F6z (s:C1E.ask.T):C1E.ev E0 (D7p c193) [] s=C1X c193 s.1.1:=by kernel_rfl
end
noncomputable def D5Z (c149:TI→Option A4B) (c150:Int→Option A9x):List FE:=[B9C c149,D9p c150]
section
variable (c149:TI→Option A4B) (c150:Int→Option A9x)
noncomputable def B89 (x0:Int):Option Z3:=(c150 x0).bind fun r1=>((c149 (r1.1,r1.2)).bind fun r2=>(some (r2.1,r2.2)))
theorem e89 (s:D89.ask.T):D89.ev E0 (D5Z c149 c150) [] s=B89 c149 c150 s.1.1:=by kernel_rfl
end
noncomputable def C9v (x0:TQ):Option A1i:=some (E6 x0.1.2 (⟨#[]⟩:ByteArray))
theorem F7u (s:C1L.ask.T):C1L.ev E0 [] [] s=C9v s.1.1:=by kernel_rfl
noncomputable def C2h (x0:ByteArray):Option A7J:=if(x0.size:Int)>0 then(if(0:Int)≤0 then(if 0<(x0.size:Int)then(if bt x0 0=0 then(some 1)else(if(x0.size:Int)>1024 then(some 4)else(some 0)))else(none))else(none))else(if(x0.size:Int)>1024 then(some 4)else(some 0))
theorem E4y (s:B8x.ask.T):B8x.ev E0 [] [] s=C2h s.1.1:=by kernel_rfl
noncomputable def C4P:Option B0v:=some (false,(⟨#[]⟩:ByteArray))
theorem F2u (s:B9g.ask.T):B9g.ev E0 [] [] s=C4P:=by kernel_rfl
noncomputable def D3k (c214:ByteArray→Option A7J) (c243:Option B0v):List FE:=[C3c c214,D3n c243]
section
variable (c214:ByteArray→Option A7J) (c243:Option B0v)
noncomputable def D0f (x0:TI):Option B2X:=(c214 x0.2).bind fun r1=>(if r1=1 then(some r1)else((c243).bind fun r2=>(B3 ((!((x0.1==r2.1)&&(E6 x0.2 r2.2)))) (B3 ((E6 x0.2 (⟨#[]⟩:ByteArray))) (some 1) (some r1)) (some r1))))
theorem F3K (s:B9c.ask.T):B9c.ev E0 (D3k c214 c243) [] s=D0f c214 c243 s.1.1:=by kernel_rfl
end
noncomputable def C2E:Sk:=⟨[(0, .f (.a (.ref 2000))),(3, .d (.it .i64))],[(2000, .own (.it .u64) false)]⟩
noncomputable def C8M (gl0:Int→(List Int)→Option u6):List (C9 u6):=[⟨2,C2E,fun s=>gl0 s.1.1 s.2.1⟩]
section
variable (gl0:Int→(List Int)→Option u6)
noncomputable def C4O (x3:Int) (y0:(List Int)):Option u6:=if x3>0 then(if 0≤wrap64 (x3-1)then(if wrap64 (x3-1)<(y0.length:Int)then(if rd y0 (wrap64 (x3-1))=0 then(gl0 (wrap64 (x3-1)) y0)else(if(0:Int)≤0 then(if 0≤x3 then(if x3≤(y0.length:Int)then(if(y0.length:Int)≤(y0.length:Int)then(some (x3,y0))else(none))else(none))else(none))else(none)))else(none))else(none))else(if(0:Int)≤0 then(if 0≤x3 then(if x3≤(y0.length:Int)then(if(y0.length:Int)≤(y0.length:Int)then(some (x3,y0))else(none))else(none))else(none))else(none))
theorem F5i (s0:C5 B1B.ask.bl) (s:C2E.T):B1B.po E0 [] (C8M gl0) s0 0 (C2E.mk' s)=C4O gl0 s.1.1 s.2.1:=by kernel_rfl
noncomputable def D5h (y0:(List Int)):Option u6:=gl0 (y0.length:Int) y0
theorem F0v (s:B1B.ask.T):B1B.ev E0 [] (C8M gl0) s=D5h gl0 s.2.1:=by kernel_rfl
end
noncomputable def C5K:Sk:=⟨[(0, .d .st),(3, .f (.a (.ref 3))),(12, .d (.it .i64)),(13, .d (.it .i64))],[(3, .own (.it .u64) true)]⟩
noncomputable def C3S (gl0:ByteArray→Int→Int→(List Int)→Option U9):List (C9 U9):=[⟨3,C5K,fun s=>gl0 s.1.1 s.1.2.1 s.1.2.2.1 s.2.1⟩]
noncomputable def C9E (c245:(List Int)→Option u6):List FE:=[B7O c245]
section
variable (gl0:ByteArray→Int→Int→(List Int)→Option U9) (c245:(List Int)→Option u6)
noncomputable def C2W (x0:ByteArray) (x12:Int) (x13:Int) (x3:(List Int)):Option U9:=if x13<x12 then(if(8:Int)=0 then(none)else(if 0≤wrap64 (Int.tdiv (wrap64 ((wrap64 ((x0.size:Int)-1))-x13)) 8)then(if wrap64 (Int.tdiv (wrap64 ((wrap64 ((x0.size:Int)-1))-x13)) 8)<(x3.length:Int)then(if 0≤x13 then(if x13<(x0.size:Int)then(if(8:Int)=0 then(none)else(if 0≤wrap64 (8*(Int.tmod (wrap64 ((wrap64 ((x0.size:Int)-1))-x13)) 8))then(if 0≤wrap64 (Int.tdiv (wrap64 ((wrap64 ((x0.size:Int)-1))-x13)) 8)then(if wrap64 (Int.tdiv (wrap64 ((wrap64 ((x0.size:Int)-1))-x13)) 8)<(x3.length:Int)then(gl0 x0 x12 (wrap64 (x13+1)) (x3.set (wrap64 (Int.tdiv (wrap64 ((wrap64 ((x0.size:Int)-1))-x13)) 8):Int).toNat (Go.bits .or .u64 (rd x3 (wrap64 (Int.tdiv (wrap64 ((wrap64 ((x0.size:Int)-1))-x13)) 8))) (shl .u64 (IntKind.u64.wrap (bt x0 x13)) (wrap64 (8*(Int.tmod (wrap64 ((wrap64 ((x0.size:Int)-1))-x13)) 8)))))))else(none))else(none))else(none)))else(none))else(none))else(none))else(none)))else((c245 x3).bind fun r1=>(some (r1.2.take (r1.1:Int).toNat)))
theorem F7I (s0:C5 B0p.ask.bl) (s:C5K.T):B0p.po E0 (C9E c245) (C3S gl0) s0 0 (C5K.mk' s)=C2W gl0 c245 s.1.1 s.1.2.1 s.1.2.2.1 s.2.1:=by kernel_rfl
noncomputable def D0l (x0:ByteArray):Option U9:=if(8:Int)=0 then(none)else(if 0≤wrap64 (Int.tdiv (wrap64 ((x0.size:Int)+7)) 8)then(if wrap64 (Int.tdiv (wrap64 ((x0.size:Int)+7)) 8)≤wrap64 (Int.tdiv (wrap64 ((x0.size:Int)+7)) 8)then(if(wrap64 (Int.tdiv (wrap64 ((x0.size:Int)+7)) 8):Int).toNat≤35184372088832 then(gl0 x0 (x0.size:Int) 0 (List.replicate (wrap64 (Int.tdiv (wrap64 ((x0.size:Int)+7)) 8):Int).toNat (0:Int)))else(none))else(none))else(none))
theorem F0q (s:B0p.ask.T):B0p.ev E0 (C9E c245) (C3S gl0) s=D0l gl0 s.1.1:=by kernel_rfl
end
noncomputable def C9T:Sk:=⟨[(0, .d (.li (.it .u64))),(1, .d (.li (.it .u64))),(5, .d (.it .i64))],[]⟩
noncomputable def C7G (gl0:(List Int)→(List Int)→Int→Option A3M):List (C9 A3M):=[⟨6,C9T,fun s=>gl0 s.1.1 s.1.2.1 s.1.2.2.1⟩]
section
variable (gl0:(List Int)→(List Int)→Int→Option A3M)
noncomputable def C6q (x0:(List Int)) (x1:(List Int)) (x5:Int):Option A3M:=if x5≥0 then(if 0≤x5 then(if x5<(x0.length:Int)then(if 0≤x5 then(if x5<(x1.length:Int)then(if rd x0 x5≠rd x1 x5 then(if 0≤x5 then(if x5<(x0.length:Int)then(if 0≤x5 then(if x5<(x1.length:Int)then(if rd x0 x5<rd x1 x5 then(some (-1))else(some 1))else(none))else(none))else(none))else(none))else(gl0 x0 x1 (wrap64 (x5-1))))else(none))else(none))else(none))else(none))else(some 0)
theorem F7t (s0:C5 B1F.ask.bl) (s:C9T.T):B1F.po E0 [] (C7G gl0) s0 0 (C9T.mk' s)=C6q gl0 s.1.1 s.1.2.1 s.1.2.2.1:=by kernel_rfl
noncomputable def C6V (x0:(List Int)) (x1:(List Int)):Option A3M:=if(x0.length:Int)≠(x1.length:Int)then(if(x0.length:Int)<(x1.length:Int)then(some (-1))else(some 1))else(gl0 x0 x1 (wrap64 ((x0.length:Int)-1)))
theorem E7E (s:B1F.ask.T):B1F.ev E0 [] (C7G gl0) s=C6V gl0 s.1.1 s.1.2.1:=by kernel_rfl
end
noncomputable def D4N (c297:Int→Option B3v):List FE:=[D3A c297]
section
variable (c297:Int→Option B3v)
noncomputable def C9l (x0:Int):Option A7E:=(c297 x0).bind fun r1=>(some (wrap64 (64-r1)))
theorem F2S (s:B7H.ask.T):B7H.ev E0 (D4N c297) [] s=C9l c297 s.1.1:=by kernel_rfl
end
noncomputable def C3p:Sk:=⟨[(2, .d (.it .u64)),(8, .d (.it .u64)),(9, .d (.it .u64)),(10, .d (.it .u64)),(11, .d (.it .u64)),(13, .d (.it .u64)),(14, .d (.it .u64)),(15, .d (.it .u64)),(16, .d (.it .u64))],[]⟩
noncomputable def D0G:Sk:=⟨[(2, .d (.it .u64)),(8, .d (.it .u64)),(9, .d (.it .u64)),(10, .d (.it .u64)),(14, .d (.it .u64)),(15, .d (.it .u64)),(16, .d (.it .u64)),(17, .d (.it .u64)),(18, .d (.it .u64))],[]⟩
noncomputable def B7I (gl0:Int→Int→Int→Int→Int→Int→Int→Int→Int→Option j7) (gl1:Int→Int→Int→Int→Int→Int→Int→Int→Int→Option j7):List (C9 j7):=[⟨17,C3p,fun s=>gl0 s.1.1 s.1.2.1 s.1.2.2.1 s.1.2.2.2.1 s.1.2.2.2.2.1 s.1.2.2.2.2.2.1 s.1.2.2.2.2.2.2.1 s.1.2.2.2.2.2.2.2.1 s.1.2.2.2.2.2.2.2.2.1⟩,⟨24,D0G,fun s=>gl1 s.1.1 s.1.2.1 s.1.2.2.1 s.1.2.2.2.1 s.1.2.2.2.2.1 s.1.2.2.2.2.2.1 s.1.2.2.2.2.2.2.1 s.1.2.2.2.2.2.2.2.1 s.1.2.2.2.2.2.2.2.2.1⟩]
noncomputable def B8W (c278:Int→Option A7E):List FE:=[C3l c278]
section
variable (gl0:Int→Int→Int→Int→Int→Int→Int→Int→Int→Option j7) (gl1:Int→Int→Int→Int→Int→Int→Int→Int→Int→Option j7) (c278:Int→Option A7E)
noncomputable def C9H (x2:Int) (x8:Int) (x9:Int) (x10:Int) (x11:Int) (x13:Int) (x14:Int) (x15:Int) (x16:Int):Option j7:=if x15≥4294967296 then(if IntKind.u64.wrap (x16+x9)≥4294967296 then(if x9=0 then(none)else(gl1 x2 x8 x9 x10 x14 (IntKind.u64.wrap (x15-1)) (IntKind.u64.wrap ((IntKind.u64.wrap ((IntKind.u64.wrap ((IntKind.u64.wrap (x11*4294967296))+x13))-(IntKind.u64.wrap ((IntKind.u64.wrap (x15-1))*x2))))-(IntKind.u64.wrap ((IntKind.u64.wrap (Int.tdiv (IntKind.u64.wrap ((IntKind.u64.wrap ((IntKind.u64.wrap (x11*4294967296))+x13))-(IntKind.u64.wrap ((IntKind.u64.wrap (x15-1))*x2)))) x9))*x9)))) (IntKind.u64.wrap ((IntKind.u64.wrap ((IntKind.u64.wrap (x11*4294967296))+x13))-(IntKind.u64.wrap ((IntKind.u64.wrap (x15-1))*x2)))) (IntKind.u64.wrap (Int.tdiv (IntKind.u64.wrap ((IntKind.u64.wrap ((IntKind.u64.wrap (x11*4294967296))+x13))-(IntKind.u64.wrap ((IntKind.u64.wrap (x15-1))*x2)))) x9))))else(gl0 x2 x8 x9 x10 x11 x13 x14 (IntKind.u64.wrap (x15-1)) (IntKind.u64.wrap (x16+x9))))else(if IntKind.u64.wrap (x15*x10)>IntKind.u64.wrap ((IntKind.u64.wrap (4294967296*x16))+x13)then(if IntKind.u64.wrap (x16+x9)≥4294967296 then(if x9=0 then(none)else(gl1 x2 x8 x9 x10 x14 (IntKind.u64.wrap (x15-1)) (IntKind.u64.wrap ((IntKind.u64.wrap ((IntKind.u64.wrap ((IntKind.u64.wrap (x11*4294967296))+x13))-(IntKind.u64.wrap ((IntKind.u64.wrap (x15-1))*x2))))-(IntKind.u64.wrap ((IntKind.u64.wrap (Int.tdiv (IntKind.u64.wrap ((IntKind.u64.wrap ((IntKind.u64.wrap (x11*4294967296))+x13))-(IntKind.u64.wrap ((IntKind.u64.wrap (x15-1))*x2)))) x9))*x9)))) (IntKind.u64.wrap ((IntKind.u64.wrap ((IntKind.u64.wrap (x11*4294967296))+x13))-(IntKind.u64.wrap ((IntKind.u64.wrap (x15-1))*x2)))) (IntKind.u64.wrap (Int.tdiv (IntKind.u64.wrap ((IntKind.u64.wrap ((IntKind.u64.wrap (x11*4294967296))+x13))-(IntKind.u64.wrap ((IntKind.u64.wrap (x15-1))*x2)))) x9))))else(gl0 x2 x8 x9 x10 x11 x13 x14 (IntKind.u64.wrap (x15-1)) (IntKind.u64.wrap (x16+x9))))else(if x9=0 then(none)else(gl1 x2 x8 x9 x10 x14 x15 (IntKind.u64.wrap ((IntKind.u64.wrap ((IntKind.u64.wrap ((IntKind.u64.wrap (x11*4294967296))+x13))-(IntKind.u64.wrap (x15*x2))))-(IntKind.u64.wrap ((IntKind.u64.wrap (Int.tdiv (IntKind.u64.wrap ((IntKind.u64.wrap ((IntKind.u64.wrap (x11*4294967296))+x13))-(IntKind.u64.wrap (x15*x2)))) x9))*x9)))) (IntKind.u64.wrap ((IntKind.u64.wrap ((IntKind.u64.wrap (x11*4294967296))+x13))-(IntKind.u64.wrap (x15*x2)))) (IntKind.u64.wrap (Int.tdiv (IntKind.u64.wrap ((IntKind.u64.wrap ((IntKind.u64.wrap (x11*4294967296))+x13))-(IntKind.u64.wrap (x15*x2)))) x9)))))
theorem F4a (s0:C5 A6f.ask.bl) (s:C3p.T):A6f.po E0 (B8W c278) (B7I gl0 gl1) s0 0 (C3p.mk' s)=C9H gl0 gl1 s.1.1 s.1.2.1 s.1.2.2.1 s.1.2.2.2.1 s.1.2.2.2.2.1 s.1.2.2.2.2.2.1 s.1.2.2.2.2.2.2.1 s.1.2.2.2.2.2.2.2.1 s.1.2.2.2.2.2.2.2.2.1:=by kernel_rfl
noncomputable def C5c (x2:Int) (x8:Int) (x9:Int) (x10:Int) (x14:Int) (x15:Int) (x16:Int) (x17:Int) (x18:Int):Option j7:=if x18≥4294967296 then(if IntKind.u64.wrap (x16+x9)≥4294967296 then(if 0≤x8 then(some (IntKind.u64.wrap ((IntKind.u64.wrap (x15*4294967296))+(IntKind.u64.wrap (x18-1))),shr .u64 (IntKind.u64.wrap ((IntKind.u64.wrap ((IntKind.u64.wrap (x17*4294967296))+x14))-(IntKind.u64.wrap ((IntKind.u64.wrap (x18-1))*x2)))) x8))else(none))else(gl1 x2 x8 x9 x10 x14 x15 (IntKind.u64.wrap (x16+x9)) x17 (IntKind.u64.wrap (x18-1))))else(if IntKind.u64.wrap (x18*x10)>IntKind.u64.wrap ((IntKind.u64.wrap (4294967296*x16))+x14)then(if IntKind.u64.wrap (x16+x9)≥4294967296 then(if 0≤x8 then(some (IntKind.u64.wrap ((IntKind.u64.wrap (x15*4294967296))+(IntKind.u64.wrap (x18-1))),shr .u64 (IntKind.u64.wrap ((IntKind.u64.wrap ((IntKind.u64.wrap (x17*4294967296))+x14))-(IntKind.u64.wrap ((IntKind.u64.wrap (x18-1))*x2)))) x8))else(none))else(gl1 x2 x8 x9 x10 x14 x15 (IntKind.u64.wrap (x16+x9)) x17 (IntKind.u64.wrap (x18-1))))else(if 0≤x8 then(some (IntKind.u64.wrap ((IntKind.u64.wrap (x15*4294967296))+x18),shr .u64 (IntKind.u64.wrap ((IntKind.u64.wrap ((IntKind.u64.wrap (x17*4294967296))+x14))-(IntKind.u64.wrap (x18*x2)))) x8))else(none)))
theorem E7P (s0:C5 A6f.ask.bl) (s:D0G.T):A6f.po E0 (B8W c278) (B7I gl0 gl1) s0 1 (D0G.mk' s)=C5c gl1 s.1.1 s.1.2.1 s.1.2.2.1 s.1.2.2.2.1 s.1.2.2.2.2.1 s.1.2.2.2.2.2.1 s.1.2.2.2.2.2.2.1 s.1.2.2.2.2.2.2.2.1 s.1.2.2.2.2.2.2.2.2.1:=by kernel_rfl
noncomputable def C5G (x0:Int) (x1:Int) (x2:Int):Option j7:=if x2=0 then(none)else(if x2≤x0 then(none)else(if x0=0 then(if x2=0 then(none)else(if x2=0 then(none)else(some (IntKind.u64.wrap (Int.tdiv x1 x2),Int.tmod x1 x2))))else((c278 x2).bind fun r1=>(if 0≤IntKind.u64.wrap (r1)then(if(0:Int)≤32 then(if 0≤IntKind.u64.wrap (r1)then(if 0≤IntKind.u64.wrap (64-(IntKind.u64.wrap (r1)))then(if 0≤IntKind.u64.wrap (r1)then(if(0:Int)≤32 then(if(shl .u64 x2 (IntKind.u64.wrap (r1)))/4294967296=0 then(none)else(gl0 (shl .u64 x2 (IntKind.u64.wrap (r1))) (IntKind.u64.wrap (r1)) ((shl .u64 x2 (IntKind.u64.wrap (r1)))/4294967296) (Go.bits .and .u64 (shl .u64 x2 (IntKind.u64.wrap (r1))) 4294967295) (Go.bits .or .u64 (shl .u64 x0 (IntKind.u64.wrap (r1))) (shr .u64 x1 (IntKind.u64.wrap (64-(IntKind.u64.wrap (r1)))))) ((shl .u64 x1 (IntKind.u64.wrap (r1)))/4294967296) (Go.bits .and .u64 (shl .u64 x1 (IntKind.u64.wrap (r1))) 4294967295) (IntKind.u64.wrap (Int.tdiv (Go.bits .or .u64 (shl .u64 x0 (IntKind.u64.wrap (r1))) (shr .u64 x1 (IntKind.u64.wrap (64-(IntKind.u64.wrap (r1)))))) ((shl .u64 x2 (IntKind.u64.wrap (r1)))/4294967296))) (IntKind.u64.wrap ((Go.bits .or .u64 (shl .u64 x0 (IntKind.u64.wrap (r1))) (shr .u64 x1 (IntKind.u64.wrap (64-(IntKind.u64.wrap (r1))))))-(IntKind.u64.wrap ((IntKind.u64.wrap (Int.tdiv (Go.bits .or .u64 (shl .u64 x0 (IntKind.u64.wrap (r1))) (shr .u64 x1 (IntKind.u64.wrap (64-(IntKind.u64.wrap (r1)))))) ((shl .u64 x2 (IntKind.u64.wrap (r1)))/4294967296)))*((shl .u64 x2 (IntKind.u64.wrap (r1)))/4294967296)))))))else(none))else(none))else(none))else(none))else(none))else(none)))))
theorem E4J (s:A6f.ask.T):A6f.ev E0 (B8W c278) (B7I gl0 gl1) s=C5G gl0 c278 s.1.1 s.1.2.1 s.1.2.2.1:=by kernel_rfl
end
noncomputable def C3W:Sk:=⟨[(1, .d (.it .i64)),(5, .f (.a (.ref 5))),(12, .d (.li (.it .u64))),(13, .d (.it .i64)),(14, .d (.it .i64))],[(5, .own (.it .u64) true)]⟩
noncomputable def C8q (gl0:Int→(List Int)→Int→Int→(List Int)→Option A2y):List (C9 A2y):=[⟨3,C3W,fun s=>gl0 s.1.1 s.1.2.1 s.1.2.2.1 s.1.2.2.2.1 s.2.1⟩]
section
variable (gl0:Int→(List Int)→Int→Int→(List Int)→Option A2y)
noncomputable def C9M (x1:Int) (x12:(List Int)) (x13:Int) (x14:Int) (x5:(List Int)):Option A2y:=if x14<x13 then(if 0≤x14 then(if x14<(x12.length:Int)then(if 0≤x14 then(if x14<(x5.length:Int)then(if 0≤x1 then(if 0≤x14 then(if x14<(x5.length:Int)then(if x1>0 then(if 0≤wrap64 (64-x1)then(if 0≤wrap64 (x14+1)then(if wrap64 (x14+1)<((x5.set (x14:Int).toNat (Go.bits .or .u64 (rd x5 x14) (shl .u64 (rd x12 x14) x1))).length:Int)then(gl0 x1 x12 x13 (wrap64 (x14+1)) ((x5.set (x14:Int).toNat (Go.bits .or .u64 (rd x5 x14) (shl .u64 (rd x12 x14) x1))).set (wrap64 (x14+1):Int).toNat (shr .u64 (rd x12 x14) (wrap64 (64-x1)))))else(none))else(none))else(none))else(gl0 x1 x12 x13 (wrap64 (x14+1)) (x5.set (x14:Int).toNat (Go.bits .or .u64 (rd x5 x14) (shl .u64 (rd x12 x14) x1)))))else(none))else(none))else(none))else(none))else(none))else(none))else(none))else(some x5)
theorem F5G (s0:C5 B0Z.ask.bl) (s:C3W.T):B0Z.po E0 [] (C8q gl0) s0 0 (C3W.mk' s)=C9M gl0 s.1.1 s.1.2.1 s.1.2.2.1 s.1.2.2.2.1 s.2.1:=by kernel_rfl
noncomputable def C7m (x0:(List Int)) (x1:Int):Option A2y:=if 0≤wrap64 ((x0.length:Int)+1)then(if wrap64 ((x0.length:Int)+1)≤wrap64 ((x0.length:Int)+1)then(if(wrap64 ((x0.length:Int)+1):Int).toNat≤35184372088832 then(gl0 x1 x0 (x0.length:Int) 0 (List.replicate (wrap64 ((x0.length:Int)+1):Int).toNat (0:Int)))else(none))else(none))else(none)
theorem E6B (s:B0Z.ask.T):B0Z.ev E0 [] (C8q gl0) s=C7m gl0 s.1.1 s.1.2.1:=by kernel_rfl
end
noncomputable def C1u (x0:Int) (x1:Int):Option A7L:=if(0:Int)≤32 then(if(0:Int)≤32 then(if(0:Int)≤32 then(if(0:Int)≤32 then(if(0:Int)≤32 then(some (IntKind.u64.wrap ((IntKind.u64.wrap ((IntKind.u64.wrap ((x0/4294967296)*(x1/4294967296)))+((IntKind.u64.wrap ((IntKind.u64.wrap ((x0/4294967296)*(Go.bits .and .u64 x1 4294967295)))+((IntKind.u64.wrap ((Go.bits .and .u64 x0 4294967295)*(Go.bits .and .u64 x1 4294967295)))/4294967296)))/4294967296)))+((IntKind.u64.wrap ((Go.bits .and .u64 (IntKind.u64.wrap ((IntKind.u64.wrap ((x0/4294967296)*(Go.bits .and .u64 x1 4294967295)))+((IntKind.u64.wrap ((Go.bits .and .u64 x0 4294967295)*(Go.bits .and .u64 x1 4294967295)))/4294967296))) 4294967295)+(IntKind.u64.wrap ((Go.bits .and .u64 x0 4294967295)*(x1/4294967296)))))/4294967296)),IntKind.u64.wrap (x0*x1)))else(none))else(none))else(none))else(none))else(none)
theorem E3b (s:B7n.ask.T):B7n.ev E0 [] [] s=C1u s.1.1 s.1.2.1:=by kernel_rfl
noncomputable def C9S:Sk:=⟨[(0, .f (.a (.ref 2000))),(1, .d (.li (.it .u64))),(5, .d (.it .i64)),(6, .d (.it .u64)),(7, .d (.it .u64)),(8, .d (.it .u64))],[(2000, .own (.it .u64) false)]⟩
noncomputable def C6e:Sk:=⟨[(0, .f (.a (.ref 2000))),(1, .d (.li (.it .u64))),(5, .d (.it .i64)),(6, .d (.it .u64)),(11, .d (.it .u64)),(12, .d (.it .u64)),(104, .d (.it .i64)),(105, .d (.it .i64))],[(2000, .own (.it .u64) false)]⟩
noncomputable def C6g:Sk:=⟨[(0, .f (.a (.ref 2000))),(1, .d (.li (.it .u64))),(5, .d (.it .i64)),(6, .d (.it .u64)),(17, .d (.it .u64)),(156, .d (.it .i64)),(157, .d (.it .i64))],[(2000, .own (.it .u64) false)]⟩
noncomputable def B5X (gl0:(List Int)→Int→Int→Int→Int→(List Int)→Option X4) (gl1:(List Int)→Int→Int→Int→Int→Int→Int→(List Int)→Option X4) (gl2:(List Int)→Int→Int→Int→Int→Int→(List Int)→Option X4):List (C9 X4):=[⟨8,C9S,fun s=>gl0 s.1.1 s.1.2.1 s.1.2.2.1 s.1.2.2.2.1 s.1.2.2.2.2.1 s.2.1⟩,⟨15,C6e,fun s=>gl1 s.1.1 s.1.2.1 s.1.2.2.1 s.1.2.2.2.1 s.1.2.2.2.2.1 s.1.2.2.2.2.2.1 s.1.2.2.2.2.2.2.1 s.2.1⟩,⟨28,C6g,fun s=>gl2 s.1.1 s.1.2.1 s.1.2.2.1 s.1.2.2.2.1 s.1.2.2.2.2.1 s.1.2.2.2.2.2.1 s.2.1⟩]
noncomputable def B4v (c246:Int→Int→Option A7L) (c247:Int→Int→Int→Option A4o) (c248:Int→Int→Int→Option A9I) (c277:Int→Int→Int→Option j7):List FE:=[C4T c246,B9z c247,C8E c248,C2N c277]
section
variable (gl0:(List Int)→Int→Int→Int→Int→(List Int)→Option X4) (gl1:(List Int)→Int→Int→Int→Int→Int→Int→(List Int)→Option X4) (gl2:(List Int)→Int→Int→Int→Int→Int→(List Int)→Option X4) (c246:Int→Int→Option A7L) (c247:Int→Int→Int→Option A4o) (c248:Int→Int→Int→Option A9I) (c277:Int→Int→Int→Option j7)
noncomputable def D0C (x1:(List Int)) (x5:Int) (x6:Int) (x7:Int) (x8:Int) (y0:(List Int)):Option X4:=if x8=0 then(if 0≤wrap64 (x5-2)then(if wrap64 (x5-2)<(x1.length:Int)then((c246 x6 (rd x1 (wrap64 (x5-2)))).bind fun r1=>(if r1.1<x7 then(gl1 x1 x5 x6 0 0 x5 0 y0)else(if r1.1=x7 then(if 0≤wrap64 (x5-2)then(if wrap64 (x5-2)<(y0.length:Int)then(if r1.2≤rd y0 (wrap64 (x5-2))then(gl1 x1 x5 x6 0 0 x5 0 y0)else(if 0≤wrap64 (x5-1)then(if wrap64 (x5-1)<(x1.length:Int)then((c247 x7 (rd x1 (wrap64 (x5-1))) 0).bind fun r2=>(gl0 x1 x5 (IntKind.u64.wrap (x6-1)) r2.1 r2.2 y0))else(none))else(none)))else(none))else(none))else(if 0≤wrap64 (x5-1)then(if wrap64 (x5-1)<(x1.length:Int)then((c247 x7 (rd x1 (wrap64 (x5-1))) 0).bind fun r3=>(gl0 x1 x5 (IntKind.u64.wrap (x6-1)) r3.1 r3.2 y0))else(none))else(none)))))else(none))else(none))else(gl1 x1 x5 x6 0 0 x5 0 y0)
theorem E3p (s0:C5 A4L.ask.bl) (s:C9S.T):A4L.po E0 (B4v c246 c247 c248 c277) (B5X gl0 gl1 gl2) s0 0 (C9S.mk' s)=D0C gl0 gl1 c246 c247 s.1.1 s.1.2.1 s.1.2.2.1 s.1.2.2.2.1 s.1.2.2.2.2.1 s.2.1:=by kernel_rfl
noncomputable def C6X (x1:(List Int)) (x5:Int) (x6:Int) (x11:Int) (x12:Int) (x104:Int) (x105:Int) (y0:(List Int)):Option X4:=if x105<x104 then(if 0≤x105 then(if x105<(x1.length:Int)then((c246 x6 (rd x1 x105)).bind fun r1=>((c247 r1.2 x12 0).bind fun r2=>(if 0≤x105 then(if x105<(y0.length:Int)then((c248 (rd y0 x105) r2.1 x11).bind fun r3=>(if 0≤x105 then(if x105<(y0.length:Int)then(gl1 x1 x5 x6 r3.2 (IntKind.u64.wrap (r1.1+r2.2)) x104 (wrap64 (x105+1)) (y0.set (x105:Int).toNat r3.1))else(none))else(none)))else(none))else(none))))else(none))else(none))else(if 0≤x5 then(if x5<(y0.length:Int)then((c248 (rd y0 x5) x12 x11).bind fun r4=>(if 0≤x5 then(if x5<(y0.length:Int)then(if r4.2=0 then(some (x6,y0.set (x5:Int).toNat r4.1))else(gl2 x1 x5 x6 0 x5 0 (y0.set (x5:Int).toNat r4.1)))else(none))else(none)))else(none))else(none))
theorem E7r (s0:C5 A4L.ask.bl) (s:C6e.T):A4L.po E0 (B4v c246 c247 c248 c277) (B5X gl0 gl1 gl2) s0 1 (C6e.mk' s)=C6X gl1 gl2 c246 c247 c248 s.1.1 s.1.2.1 s.1.2.2.1 s.1.2.2.2.1 s.1.2.2.2.2.1 s.1.2.2.2.2.2.1 s.1.2.2.2.2.2.2.1 s.2.1:=by kernel_rfl
noncomputable def C4y (x1:(List Int)) (x5:Int) (x6:Int) (x17:Int) (x156:Int) (x157:Int) (y0:(List Int)):Option X4:=if x157<x156 then(if 0≤x157 then(if x157<(y0.length:Int)then(if 0≤x157 then(if x157<(x1.length:Int)then((c247 (rd y0 x157) (rd x1 x157) x17).bind fun r1=>(if 0≤x157 then(if x157<(y0.length:Int)then(gl2 x1 x5 x6 r1.2 x156 (wrap64 (x157+1)) (y0.set (x157:Int).toNat r1.1))else(none))else(none)))else(none))else(none))else(none))else(none))else(if 0≤x5 then(if x5<(y0.length:Int)then(if 0≤x5 then(if x5<(y0.length:Int)then(some (IntKind.u64.wrap (x6-1),y0.set (x5:Int).toNat (IntKind.u64.wrap ((rd y0 x5)+x17))))else(none))else(none))else(none))else(none))
theorem F1h (s0:C5 A4L.ask.bl) (s:C6g.T):A4L.po E0 (B4v c246 c247 c248 c277) (B5X gl0 gl1 gl2) s0 2 (C6g.mk' s)=C4y gl2 c247 s.1.1 s.1.2.1 s.1.2.2.1 s.1.2.2.2.1 s.1.2.2.2.2.1 s.1.2.2.2.2.2.1 s.2.1:=by kernel_rfl
noncomputable def C1o (x1:(List Int)) (y0:(List Int)):Option X4:=if 0≤(x1.length:Int)then(if(x1.length:Int)<(y0.length:Int)then(if 0≤wrap64 ((x1.length:Int)-1)then(if wrap64 ((x1.length:Int)-1)<(x1.length:Int)then(if rd y0 (x1.length:Int)≥rd x1 (wrap64 ((x1.length:Int)-1))then(if 0≤wrap64 ((x1.length:Int)-1)then(if wrap64 ((x1.length:Int)-1)<(y0.length:Int)then(if 0≤wrap64 ((x1.length:Int)-1)then(if wrap64 ((x1.length:Int)-1)<(x1.length:Int)then((c247 (rd y0 (wrap64 ((x1.length:Int)-1))) (rd x1 (wrap64 ((x1.length:Int)-1))) 0).bind fun r1=>(gl0 x1 (x1.length:Int) 18446744073709551615 r1.1 r1.2 y0))else(none))else(none))else(none))else(none))else(if 0≤(x1.length:Int)then(if(x1.length:Int)<(y0.length:Int)then(if 0≤wrap64 ((x1.length:Int)-1)then(if wrap64 ((x1.length:Int)-1)<(y0.length:Int)then(if 0≤wrap64 ((x1.length:Int)-1)then(if wrap64 ((x1.length:Int)-1)<(x1.length:Int)then((c277 (rd y0 (x1.length:Int)) (rd y0 (wrap64 ((x1.length:Int)-1))) (rd x1 (wrap64 ((x1.length:Int)-1)))).bind fun r2=>(gl0 x1 (x1.length:Int) r2.1 r2.2 0 y0))else(none))else(none))else(none))else(none))else(none))else(none)))else(none))else(none))else(none))else(none)
theorem F8s (s:A4L.ask.T):A4L.ev E0 (B4v c246 c247 c248 c277) (B5X gl0 gl1 gl2) s=C1o gl0 c247 c277 s.1.1 s.2.1:=by kernel_rfl
end
noncomputable def C9W:Sk:=⟨[(0, .d (.li (.it .u64))),(1, .d (.li (.it .u64))),(6, .f (.a (.ref 6))),(7, .d (.it .u64)),(8, .d (.it .i64))],[(6, .own (.it .u64) true)]⟩
noncomputable def D0P:Sk:=⟨[(9, .d (.it .i64)),(10, .d (.li (.it .u64))),(11, .f (.a (.ref 11))),(12, .d (.it .i64)),(13, .f (.a (.ref 13))),(14, .d (.it .i64))],[(11, .own (.it .u64) true),(13, .own (.it .u64) true)]⟩
noncomputable def D0D:Sk:=⟨[(9, .d (.it .i64)),(11, .f (.a (.ref 11))),(12, .d (.it .i64)),(13, .f (.a (.ref 13))),(96, .d (.it .i64)),(97, .d (.it .i64))],[(11, .own (.it .u64) true),(13, .own (.it .u64) true)]⟩
noncomputable def B3z (gl0:(List Int)→(List Int)→Int→Int→(List Int)→Option U4) (gl1:Int→(List Int)→Int→Int→(List Int)→(List Int)→Option U4) (gl2:Int→Int→Int→Int→(List Int)→(List Int)→Option U4):List (C9 U4):=[⟨7,C9W,fun s=>gl0 s.1.1 s.1.2.1 s.1.2.2.1 s.1.2.2.2.1 s.2.1⟩,⟨17,D0P,fun s=>gl1 s.1.1 s.1.2.1 s.1.2.2.1 s.1.2.2.2.1 s.2.1 s.2.2.1⟩,⟨21,D0D,fun s=>gl2 s.1.1 s.1.2.1 s.1.2.2.1 s.1.2.2.2.1 s.2.1 s.2.2.1⟩]
noncomputable def B5l (c245:(List Int)→Option u6) (c276:(List Int)→(List Int)→Option A3M) (c277:Int→Int→Int→Option j7) (c278:Int→Option A7E) (c279:(List Int)→Int→Option A2y) (c280:(List Int)→(List Int)→Option X4):List FE:=[B7O c245,D8D c276,C2N c277,C3l c278,D4y c279,D7o c280]
section
variable (gl0:(List Int)→(List Int)→Int→Int→(List Int)→Option U4) (gl1:Int→(List Int)→Int→Int→(List Int)→(List Int)→Option U4) (gl2:Int→Int→Int→Int→(List Int)→(List Int)→Option U4) (c245:(List Int)→Option u6) (c276:(List Int)→(List Int)→Option A3M) (c277:Int→Int→Int→Option j7) (c278:Int→Option A7E) (c279:(List Int)→Int→Option A2y) (c280:(List Int)→(List Int)→Option X4)
noncomputable def C2g (x0:(List Int)) (x1:(List Int)) (x7:Int) (x8:Int) (x6:(List Int)):Option U4:=if x8≥0 then(if 0≤x8 then(if x8<(x0.length:Int)then(if(0:Int)≤0 then(if 0<(x1.length:Int)then((c277 x7 (rd x0 x8) (rd x1 0)).bind fun r1=>(if 0≤x8 then(if x8<(x6.length:Int)then(gl0 x0 x1 r1.2 (wrap64 (x8-1)) (x6.set (x8:Int).toNat r1.1))else(none))else(none)))else(none))else(none))else(none))else(none))else((c245 x6).bind fun r2=>((c245 ([x7]:List Int)).bind fun r3=>(some (r2.2.take (r2.1:Int).toNat,r3.2.take (r3.1:Int).toNat))))
theorem F4z (s0:C5 A3b.ask.bl) (s:C9W.T):A3b.po E0 (B5l c245 c276 c277 c278 c279 c280) (B3z gl0 gl1 gl2) s0 0 (C9W.mk' s)=C2g gl0 c245 c277 s.1.1 s.1.2.1 s.1.2.2.1 s.1.2.2.2.1 s.2.1:=by kernel_rfl
noncomputable def D0d (x9:Int) (x10:(List Int)) (x12:Int) (x14:Int) (x11:(List Int)) (x13:(List Int)):Option U4:=if x14≥0 then(if 0≤x14 then(if x14≤wrap64 ((wrap64 (x14+x12))+1)then(if wrap64 ((wrap64 (x14+x12))+1)≤(x11.length:Int)then(if(x11.length:Int)≤(x11.length:Int)then((c280 x10 (slice_ x11 x14 (wrap64 ((wrap64 (x14+x12))+1)))).bind fun r1=>(if 0≤x14 then(if x14<(x13.length:Int)then(gl1 x9 x10 x12 (wrap64 (x14-1)) (x11.take ((x14:Int).toNat)++r1.2++x11.drop ((wrap64 ((wrap64 (x14+x12))+1):Int).toNat)) (x13.set (x14:Int).toNat r1.1))else(none))else(none)))else(none))else(none))else(none))else(none))else(gl2 x9 x12 x12 0 x11 x13)
theorem F5F (s0:C5 A3b.ask.bl) (s:D0P.T):A3b.po E0 (B5l c245 c276 c277 c278 c279 c280) (B3z gl0 gl1 gl2) s0 1 (D0P.mk' s)=D0d gl1 gl2 c280 s.1.1 s.1.2.1 s.1.2.2.1 s.1.2.2.2.1 s.2.1 s.2.2.1:=by kernel_rfl
noncomputable def C4A (x9:Int) (x12:Int) (x96:Int) (x97:Int) (x11:(List Int)) (x13:(List Int)):Option U4:=if x97<x96 then(if 0≤x97 then(if x97<(x11.length:Int)then(if 0≤x9 then(if 0≤x97 then(if x97<(x11.length:Int)then(if x9>0 then(if wrap64 (x97+1)<((x11.set (x97:Int).toNat (shr .u64 (rd x11 x97) x9)).length:Int)then(if 0≤x97 then(if x97<((x11.set (x97:Int).toNat (shr .u64 (rd x11 x97) x9)).length:Int)then(if 0≤wrap64 (x97+1)then(if wrap64 (x97+1)<((x11.set (x97:Int).toNat (shr .u64 (rd x11 x97) x9)).length:Int)then(if 0≤wrap64 (64-x9)then(if 0≤x97 then(if x97<((x11.set (x97:Int).toNat (shr .u64 (rd x11 x97) x9)).length:Int)then(gl2 x9 x12 x96 (wrap64 (x97+1)) ((x11.set (x97:Int).toNat (shr .u64 (rd x11 x97) x9)).set (x97:Int).toNat (Go.bits .or .u64 (rd (x11.set (x97:Int).toNat (shr .u64 (rd x11 x97) x9)) x97) (shl .u64 (rd (x11.set (x97:Int).toNat (shr .u64 (rd x11 x97) x9)) (wrap64 (x97+1))) (wrap64 (64-x9))))) x13)else(none))else(none))else(none))else(none))else(none))else(none))else(none))else(gl2 x9 x12 x96 (wrap64 (x97+1)) (x11.set (x97:Int).toNat (shr .u64 (rd x11 x97) x9)) x13))else(gl2 x9 x12 x96 (wrap64 (x97+1)) (x11.set (x97:Int).toNat (shr .u64 (rd x11 x97) x9)) x13))else(none))else(none))else(none))else(none))else(none))else((c245 x13).bind fun r1=>(if(0:Int)≤0 then(if 0≤x12 then(if x12≤(x11.length:Int)then(if(x11.length:Int)≤(x11.length:Int)then((c245 (slice_ x11 0 x12)).bind fun r2=>(some (r1.2.take (r1.1:Int).toNat,slice_ (x11.take ((0:Int).toNat)++r2.2++x11.drop ((x12:Int).toNat)) 0 (0+r2.1))))else(none))else(none))else(none))else(none)))
theorem F0c (s0:C5 A3b.ask.bl) (s:D0D.T):A3b.po E0 (B5l c245 c276 c277 c278 c279 c280) (B3z gl0 gl1 gl2) s0 2 (D0D.mk' s)=C4A gl2 c245 s.1.1 s.1.2.1 s.1.2.2.1 s.1.2.2.2.1 s.2.1 s.2.2.1:=by kernel_rfl
noncomputable def C8G (x0:(List Int)) (x1:(List Int)):Option U4:=(c276 x0 x1).bind fun r1=>(if r1<0 then(some (([]:List Int),x0))else(if(x1.length:Int)=1 then(if 0≤(x0.length:Int)then(if(x0.length:Int)≤(x0.length:Int)then(if((x0.length:Int):Int).toNat≤35184372088832 then(gl0 x0 x1 0 (wrap64 ((x0.length:Int)-1)) (List.replicate ((x0.length:Int):Int).toNat (0:Int)))else(none))else(none))else(none))else(if 0≤wrap64 ((x1.length:Int)-1)then(if wrap64 ((x1.length:Int)-1)<(x1.length:Int)then((c278 (rd x1 (wrap64 ((x1.length:Int)-1)))).bind fun r2=>((c279 x1 r2).bind fun r3=>((c245 r3).bind fun r4=>((c279 x0 r2).bind fun r5=>(if 0≤wrap64 ((wrap64 ((x0.length:Int)-((r4.2.take (r4.1:Int).toNat).length:Int)))+1)then(if wrap64 ((wrap64 ((x0.length:Int)-((r4.2.take (r4.1:Int).toNat).length:Int)))+1)≤wrap64 ((wrap64 ((x0.length:Int)-((r4.2.take (r4.1:Int).toNat).length:Int)))+1)then(if(wrap64 ((wrap64 ((x0.length:Int)-((r4.2.take (r4.1:Int).toNat).length:Int)))+1):Int).toNat≤35184372088832 then(gl1 r2 (r4.2.take (r4.1:Int).toNat) ((r4.2.take (r4.1:Int).toNat).length:Int) (wrap64 ((x0.length:Int)-((r4.2.take (r4.1:Int).toNat).length:Int))) r5 (List.replicate (wrap64 ((wrap64 ((x0.length:Int)-((r4.2.take (r4.1:Int).toNat).length:Int)))+1):Int).toNat (0:Int)))else(none))else(none))else(none))))))else(none))else(none))))
theorem F6S (s:A3b.ask.T):A3b.ev E0 (B5l c245 c276 c277 c278 c279 c280) (B3z gl0 gl1 gl2) s=C8G gl0 gl1 c245 c276 c278 c279 s.1.1 s.1.2.1:=by kernel_rfl
end
noncomputable def C3e:Sk:=⟨[(5, .d (.li (.it .u64))),(6, .d (.li (.it .u64)))],[]⟩
noncomputable def C8b (gl0:(List Int)→(List Int)→Option A1J):List (C9 A1J):=[⟨2,C3e,fun s=>gl0 s.1.1 s.1.2.1⟩]
noncomputable def C7u (c223:(List Int)→Option L8) (c225:ByteArray→Option U9) (c244:(List Int)→(List Int)→Option U4):List FE:=[A7I c223,A7Q c225,C6H c244]
section
variable (gl0:(List Int)→(List Int)→Option A1J) (c223:(List Int)→Option L8) (c225:ByteArray→Option U9) (c244:(List Int)→(List Int)→Option U4)
noncomputable def C3a (x5:(List Int)) (x6:(List Int)):Option A1J:=if(x6.length:Int)>0 then((c244 x5 x6).bind fun r1=>(gl0 x6 r1.2))else((c223 x5).bind fun r2=>(some r2))
theorem F6g (s0:C5 B2I.ask.bl) (s:C3e.T):B2I.po E0 (C7u c223 c225 c244) (C8b gl0) s0 0 (C3e.mk' s)=C3a gl0 c223 c244 s.1.1 s.1.2.1:=by kernel_rfl
noncomputable def C9d (x0:ByteArray) (x1:ByteArray):Option A1J:=(c225 x0).bind fun r1=>((c225 x1).bind fun r2=>(gl0 r1 r2))
theorem E6y (s:B2I.ask.T):B2I.ev E0 (C7u c223 c225 c244) (C8b gl0) s=C9d gl0 c225 s.1.1 s.1.2.1:=by kernel_rfl
end
noncomputable def D8n (c213:TI→Option B2X) (c214:ByteArray→Option A7J) (c215:ByteArray→ByteArray→Option A1J):List FE:=[D3F c213,C3c c214,C6N c215]
section
variable (c213:TI→Option B2X) (c214:ByteArray→Option A7J) (c215:ByteArray→ByteArray→Option A1J)
noncomputable def A3P (x0:TQ):Option A9z:=(c213 x0.1).bind fun r1=>((c214 x0.2).bind fun r2=>(if r1=1 then(some 1)else(if r2=1 then(some 1)else(B3 ((E6 x0.2 (⟨#[]⟩:ByteArray))) (some 1) (if r1≠0 then(some r1)else(if r2≠0 then(some r2)else(B3 ((!(E6 x0.2 (⟨#[1]⟩:ByteArray)))) ((c215 x0.1.2 x0.2).bind fun r3=>(B3 ((!(E6 r3 (⟨#[1]⟩:ByteArray)))) (some 1) (some 0))) (some 0))))))))
theorem F5H (s:B7m.ask.T):B7m.ev E0 (D8n c213 c214 c215) [] s=A3P c213 c214 c215 s.1.1:=by kernel_rfl
end
noncomputable def C5z:Sk:=⟨[(0, .d (.li tQ)),(9, .d (.li tQ)),(10, .d (.it .i64)),(11, .d (.it .i64))],[]⟩
noncomputable def C3y (gl0:TP→TP→Int→Int→Option A0U):List (C9 A0U):=[⟨4,C5z,fun s=>gl0 s.1.1 s.1.2.1 s.1.2.2.1 s.1.2.2.2.1⟩]
noncomputable def C4H (c152:TQ→Option A1i) (c172:TQ→Option A9z):List FE:=[B4x c152,D6r c172]
section
variable (gl0:TP→TP→Int→Int→Option A0U) (c152:TQ→Option A1i) (c172:TQ→Option A9z)
noncomputable def A9k (x0:TP) (x9:TP) (x10:Int) (x11:Int):Option A0U:=if x11<x10 then(if 0≤x11 then(if x11<(x9.length:Int)then((c172 (C4 ((false,(⟨#[]⟩:ByteArray)),(⟨#[]⟩:ByteArray)) x9 x11)).bind fun r1=>(if r1≠0 then(some r1)else(gl0 x0 x9 x10 (wrap64 (x11+1)))))else(none))else(none))else(if(x0.length:Int)>0 then(if 0≤wrap64 ((x0.length:Int)-1)then(if wrap64 ((x0.length:Int)-1)<(x0.length:Int)then((c152 (C4 ((false,(⟨#[]⟩:ByteArray)),(⟨#[]⟩:ByteArray)) x0 (wrap64 ((x0.length:Int)-1)))).bind fun r2=>(B3 (r2) (some 1) (some 0)))else(none))else(none))else(some 0))
theorem E0U (s0:C5 B0D.ask.bl) (s:C5z.T):B0D.po E0 (C4H c152 c172) (C3y gl0) s0 0 (C5z.mk' s)=A9k gl0 c152 c172 s.1.1 s.1.2.1 s.1.2.2.1 s.1.2.2.2.1:=by kernel_rfl
noncomputable def B3Q (x0:TP):Option A0U:=if(x0.length:Int)>65 then(some 4)else(gl0 x0 x0 (x0.length:Int) 0)
theorem F6n (s:B0D.ask.T):B0D.ev E0 (C4H c152 c172) (C3y gl0) s=B3Q gl0 s.1.1:=by kernel_rfl
end
noncomputable def C8W (x0:TQ):Option B0r:=some (E6 x0.2 (⟨#[1]⟩:ByteArray))
theorem E8m (s:B7Q.ask.T):B7Q.ev E0 [] [] s=C8W s.1.1:=by kernel_rfl
noncomputable def D7J (c171:TQ→Option B0r):List FE:=[D7F c171]
section
variable (c171:TQ→Option B0r)
noncomputable def C8H (x0:TQ):Option B1Y:=(c171 x0).bind fun r1=>(some (!r1))
theorem F0X (s:C1P.ask.T):C1P.ev E0 (D7J c171) [] s=C8H c171 s.1.1:=by kernel_rfl
end
noncomputable def C2c:Sk:=⟨[(0, .d (.li tQ)),(1, .f (.cl 170 [])),(7, .d (.it .i64)),(8, .d (.it .i64))],[]⟩
noncomputable def C8F (gl0:TP→Int→Int→Option A2V):List (C9 A2V):=[⟨2,C2c,fun s=>gl0 s.1.1 s.1.2.1 s.1.2.2.1⟩]
noncomputable def C9a (c170:TQ→Option B1Y):List FE:=[D8o c170]
section
variable (gl0:TP→Int→Int→Option A2V) (c170:TQ→Option B1Y)
noncomputable def A9r (x0:TP) (x7:Int) (x8:Int):Option A2V:=if x8<x7 then(if 0≤x8 then(if x8<(x0.length:Int)then((c170 (C4 ((false,(⟨#[]⟩:ByteArray)),(⟨#[]⟩:ByteArray)) x0 x8)).bind fun r1=>(B3 (r1) (some x8) (gl0 x0 x7 (wrap64 (x8+1)))))else(none))else(none))else(some (-1))
theorem E7w (s0:C5 B0F.ask.bl) (s:C2c.T):B0F.po E0 (C9a c170) (C8F gl0) s0 0 (C2c.mk' s)=A9r gl0 c170 s.1.1 s.1.2.1 s.1.2.2.1:=by kernel_rfl
noncomputable def B5B (x0:TP):Option A2V:=gl0 x0 (x0.length:Int) 0
theorem E7S (s:B0F.ask.T):B0F.ev E0 (C9a c170) (C8F gl0) s=B5B gl0 s.1.1:=by kernel_rfl
end
noncomputable def D9r (c194Form:TP→Option A2V):List FE:=[D5d c194Form]
section
variable (c194Form:TP→Option A2V)
noncomputable def C9V (x0:TP):Option A9v:=(c194Form x0).bind fun r1=>(some (decide (r1≥0)))
theorem F0G (s:B8y.ask.T):B8y.ev E0 (D9r c194Form) [] s=C9V c194Form s.1.1:=by kernel_rfl
end
noncomputable def D4m (c89:Int→Option Z3) (c120:TP→Option A0U) (c153Form:TP→Option A9v):List FE:=[A6Y c89,C2s c120,D4U c153Form]
section
variable (c89:Int→Option Z3) (c120:TP→Option A0U) (c153Form:TP→Option A9v)
noncomputable def B6A (x0:TP):Option B2P:=(c120 x0).bind fun r1=>(if r1≠0 then(some r1)else(if wrap64 ((x0.length:Int)-1)<1 then(some 1)else(if 0≤wrap64 ((x0.length:Int)-1)then(if wrap64 ((x0.length:Int)-1)<(x0.length:Int)then((c89 1).bind fun r2=>(B3 ((!((((((C4 ((false,(⟨#[]⟩:ByteArray)),(⟨#[]⟩:ByteArray)) x0 (wrap64 ((x0.length:Int)-1))).1).1)==r2.1.1)&&(E6 (((C4 ((false,(⟨#[]⟩:ByteArray)),(⟨#[]⟩:ByteArray)) x0 (wrap64 ((x0.length:Int)-1))).1).2) r2.1.2))&&(E6 ((C4 ((false,(⟨#[]⟩:ByteArray)),(⟨#[]⟩:ByteArray)) x0 (wrap64 ((x0.length:Int)-1))).2) r2.2)))) (some 1) ((c153Form x0).bind fun r3=>(B3 (r3) (some 1) (if wrap64 ((x0.length:Int)-1)>24 then(some 4)else(some 0))))))else(none))else(none))))
theorem F2T (s:B8q.ask.T):B8q.ev E0 (D4m c89 c120 c153Form) [] s=B6A c89 c120 c153Form s.1.1:=by kernel_rfl
end
noncomputable def D6d (c120:TP→Option A0U):List FE:=[C2s c120]
section
variable (c120:TP→Option A0U)
noncomputable def B4s (x0:TP) (x1:TP):Option A1m:=(c120 x1).bind fun r1=>(if r1≠0 then(some r1)else(if(x1.length:Int)≥(x0.length:Int)then(some 3)else(some 0)))
theorem F7O (s:B7T.ask.T):B7T.ev E0 (D6d c120) [] s=B4s c120 s.1.1 s.1.2.1:=by kernel_rfl
end
noncomputable def C5a:Sk:=⟨[(1, .d (.li (.li tQ))),(2, .f (.a (.ptr 2 0 []))),(11, .d (.li (.li tQ))),(12, .d (.it .i64)),(13, .d (.it .i64))],[(2, .cell (.ag (.li tQ)) true)]⟩
noncomputable def C7R (gl0:TF→TF→Int→Int→TP→Option A2N):List (C9 A2N):=[⟨4,C5a,fun s=>gl0 s.1.1 s.1.2.1 s.1.2.2.1 s.1.2.2.2.1 s.2.1⟩]
noncomputable def D1P (c124:TP→TP→Option A1m):List FE:=[B3o c124]
section
variable (gl0:TF→TF→Int→Int→TP→Option A2N) (c124:TP→TP→Option A1m)
noncomputable def A9G (x1:TF) (x11:TF) (x12:Int) (x13:Int) (x2:TP):Option A2N:=if x13<x12 then(if 0≤x13 then(if x13<(x11.length:Int)then((c124 x2 (C4 ([]:List TQ) x11 x13)).bind fun r1=>(if r1≠0 then(some r1)else(gl0 x1 x11 x12 (wrap64 (x13+1)) x2)))else(none))else(none))else(if(x1.length:Int)>0 then(if 0≤wrap64 ((x1.length:Int)-1)then(if wrap64 ((x1.length:Int)-1)<(x1.length:Int)then(if((C4 ([]:List TQ) x1 (wrap64 ((x1.length:Int)-1))).length:Int)=0 then(some 1)else(some 0))else(none))else(none))else(some 0))
theorem F4y (s0:C5 B2S.ask.bl) (s:C5a.T):B2S.po E0 (D1P c124) (C7R gl0) s0 0 (C5a.mk' s)=A9G gl0 c124 s.1.1 s.1.2.1 s.1.2.2.1 s.1.2.2.2.1 s.2.1:=by kernel_rfl
noncomputable def B5A (x0:TP) (x1:TF):Option A2N:=if(x1.length:Int)>65 then(some 4)else(gl0 x1 x1 (x1.length:Int) 0 x0)
theorem F5p (s:B2S.ask.T):B2S.ev E0 (D1P c124) (C7R gl0) s=B5A gl0 s.1.1 s.1.2.1:=by kernel_rfl
end
noncomputable def C7v:Sk:=⟨[(2, .f (.a (.ptr 2 0 []))),(14, .d (.li (.li (.li tQ)))),(15, .d (.it .i64)),(16, .d (.it .i64))],[(2, .cell (.ag (.li tQ)) true)]⟩
noncomputable def C1z (gl0:(List TF)→Int→Int→TP→Option U2):List (C9 U2):=[⟨5,C7v,fun s=>gl0 s.1.1 s.1.2.1 s.1.2.2.1 s.2.1⟩]
noncomputable def C9Y (c119:TP→Option B2P) (c138:TP→TF→Option A2N):List FE:=[D3x c119,D7Y c138]
section
variable (gl0:(List TF)→Int→Int→TP→Option U2) (c119:TP→Option B2P) (c138:TP→TF→Option A2N)
noncomputable def A8d (x14:(List TF)) (x15:Int) (x16:Int) (x2:TP):Option U2:=if x16<x15 then(if 0≤x16 then(if x16<(x14.length:Int)then((c138 x2 (C4 ([]:List TP) x14 x16)).bind fun r1=>(if r1≠0 then(some r1)else(gl0 x14 x15 (wrap64 (x16+1)) x2)))else(none))else(none))else(some 0)
theorem F5q (s0:C5 D83.ask.bl) (s:C7v.T):D83.po E0 (C9Y c119 c138) (C1z gl0) s0 0 (C7v.mk' s)=A8d gl0 c138 s.1.1 s.1.2.1 s.1.2.2.1 s.2.1:=by kernel_rfl
noncomputable def B83 (x0:TP) (x1:(List TF)):Option U2:=(c119 x0).bind fun r1=>(if r1≠0 then(some r1)else(gl0 x1 (x1.length:Int) 0 x0))
theorem e83 (s:D83.ask.T):D83.ev E0 (C9Y c119 c138) (C1z gl0) s=B83 gl0 c119 s.1.1 s.1.2.1:=by kernel_rfl
end
noncomputable def C6M:Sk:=⟨[(1, .d (.li (.it .u64))),(5, .f (.a (.ref 5))),(20, .d (.li (.it .u64))),(21, .d (.it .i64)),(22, .d (.it .i64))],[(5, .own (.it .u64) true)]⟩
noncomputable def C1c:Sk:=⟨[(1, .d (.li (.it .u64))),(5, .f (.a (.ref 5))),(6, .d (.it .i64)),(7, .d (.it .u64)),(8, .d (.it .u64)),(20, .d (.li (.it .u64))),(21, .d (.it .i64)),(22, .d (.it .i64)),(27, .d (.li (.it .u64))),(28, .d (.it .i64)),(29, .d (.it .i64))],[(5, .own (.it .u64) true)]⟩
noncomputable def C0p (gl0:(List Int)→(List Int)→Int→Int→(List Int)→Option i8) (gl1:(List Int)→Int→Int→Int→(List Int)→Int→Int→(List Int)→Int→Int→(List Int)→Option i8):List (C9 i8):=[⟨3,C6M,fun s=>gl0 s.1.1 s.1.2.1 s.1.2.2.1 s.1.2.2.2.1 s.2.1⟩,⟨7,C1c,fun s=>gl1 s.1.1 s.1.2.1 s.1.2.2.1 s.1.2.2.2.1 s.1.2.2.2.2.1 s.1.2.2.2.2.2.1 s.1.2.2.2.2.2.2.1 s.1.2.2.2.2.2.2.2.1 s.1.2.2.2.2.2.2.2.2.1 s.1.2.2.2.2.2.2.2.2.2.1 s.2.1⟩]
noncomputable def B8E (c245:(List Int)→Option u6) (c246:Int→Int→Option A7L) (c247:Int→Int→Int→Option A4o):List FE:=[B7O c245,C4T c246,B9z c247]
section
variable (gl0:(List Int)→(List Int)→Int→Int→(List Int)→Option i8) (gl1:(List Int)→Int→Int→Int→(List Int)→Int→Int→(List Int)→Int→Int→(List Int)→Option i8) (c245:(List Int)→Option u6) (c246:Int→Int→Option A7L) (c247:Int→Int→Int→Option A4o)
noncomputable def C6x (x1:(List Int)) (x20:(List Int)) (x21:Int) (x22:Int) (x5:(List Int)):Option i8:=if x22<x21 then(if 0≤x22 then(if x22<(x20.length:Int)then(gl1 x1 x22 (rd x20 x22) 0 x20 x21 x22 x1 (x1.length:Int) 0 x5)else(none))else(none))else((c245 x5).bind fun r1=>(some (r1.2.take (r1.1:Int).toNat)))
theorem F3U (s0:C5 A6I.ask.bl) (s:C6M.T):A6I.po E0 (B8E c245 c246 c247) (C0p gl0 gl1) s0 0 (C6M.mk' s)=C6x gl1 c245 s.1.1 s.1.2.1 s.1.2.2.1 s.1.2.2.2.1 s.2.1:=by kernel_rfl
noncomputable def C6h (x1:(List Int)) (x6:Int) (x7:Int) (x8:Int) (x20:(List Int)) (x21:Int) (x22:Int) (x27:(List Int)) (x28:Int) (x29:Int) (x5:(List Int)):Option i8:=if x29<x28 then(if 0≤x29 then(if x29<(x27.length:Int)then((c246 x7 (rd x27 x29)).bind fun r1=>(if 0≤wrap64 (x6+x29)then(if wrap64 (x6+x29)<(x5.length:Int)then((c247 r1.2 (rd x5 (wrap64 (x6+x29))) 0).bind fun r2=>((c247 r2.1 x8 0).bind fun r3=>(if 0≤wrap64 (x6+x29)then(if wrap64 (x6+x29)<(x5.length:Int)then(gl1 x1 x6 x7 (IntKind.u64.wrap ((IntKind.u64.wrap (r1.1+r2.2))+r3.2)) x20 x21 x22 x27 x28 (wrap64 (x29+1)) (x5.set (wrap64 (x6+x29):Int).toNat r3.1))else(none))else(none))))else(none))else(none)))else(none))else(none))else(if 0≤wrap64 (x6+(x1.length:Int))then(if wrap64 (x6+(x1.length:Int))<(x5.length:Int)then(gl0 x1 x20 x21 (wrap64 (x22+1)) (x5.set (wrap64 (x6+(x1.length:Int)):Int).toNat x8))else(none))else(none))
theorem E1A (s0:C5 A6I.ask.bl) (s:C1c.T):A6I.po E0 (B8E c245 c246 c247) (C0p gl0 gl1) s0 1 (C1c.mk' s)=C6h gl0 gl1 c246 c247 s.1.1 s.1.2.1 s.1.2.2.1 s.1.2.2.2.1 s.1.2.2.2.2.1 s.1.2.2.2.2.2.1 s.1.2.2.2.2.2.2.1 s.1.2.2.2.2.2.2.2.1 s.1.2.2.2.2.2.2.2.2.1 s.1.2.2.2.2.2.2.2.2.2.1 s.2.1:=by kernel_rfl
noncomputable def C6f (x0:(List Int)) (x1:(List Int)):Option i8:=if 0≤wrap64 ((x0.length:Int)+(x1.length:Int))then(if wrap64 ((x0.length:Int)+(x1.length:Int))≤wrap64 ((x0.length:Int)+(x1.length:Int))then(if(wrap64 ((x0.length:Int)+(x1.length:Int)):Int).toNat≤35184372088832 then(gl0 x1 x0 (x0.length:Int) 0 (List.replicate (wrap64 ((x0.length:Int)+(x1.length:Int)):Int).toNat (0:Int)))else(none))else(none))else(none)
theorem E4o (s:A6I.ask.T):A6I.ev E0 (B8E c245 c246 c247) (C0p gl0 gl1) s=C6f gl0 s.1.1 s.1.2.1:=by kernel_rfl
end
noncomputable def D4z (c223:(List Int)→Option L8) (c224:(List Int)→(List Int)→Option i8) (c225:ByteArray→Option U9):List FE:=[A7I c223,D0U c224,A7Q c225]
section
variable (c223:(List Int)→Option L8) (c224:(List Int)→(List Int)→Option i8) (c225:ByteArray→Option U9)
noncomputable def C9Z (x0:ByteArray) (x1:ByteArray):Option A3m:=(c225 x0).bind fun r1=>((c225 x1).bind fun r2=>((c224 r1 r2).bind fun r3=>((c223 r3).bind fun r4=>(some r4))))
theorem F4d (s:B7X.ask.T):B7X.ev E0 (D4z c223 c224 c225) [] s=C9Z c223 c224 c225 s.1.1 s.1.2.1:=by kernel_rfl
end
noncomputable def C8S (x0:Bool) (x1:ByteArray):Option l6:=B3 (x0) (some ((!(E6 x1 (⟨#[]⟩:ByteArray))),x1)) (some (false,x1))
theorem E8c (s:B7F.ask.T):B7F.ev E0 [] [] s=C8S s.1.1 s.1.2.1:=by kernel_rfl
noncomputable def D5Q (c186:ByteArray→ByteArray→Option A3m) (c192:Bool→ByteArray→Option l6):List FE:=[B9F c186,A9e c192]
section
variable (c186:ByteArray→ByteArray→Option A3m) (c192:Bool→ByteArray→Option l6)
noncomputable def C3U (x0:TI) (x1:TI):Option B2K:=(c186 x0.2 x1.2).bind fun r1=>((c192 (!(x0.1==x1.1)) r1).bind fun r2=>(some (r2.1,r2.2)))
theorem F2W (s:B8d.ask.T):B8d.ev E0 (D5Q c186 c192) [] s=C3U c186 c192 s.1.1 s.1.2.1:=by kernel_rfl
end
noncomputable def D8I (c223:(List Int)→Option L8) (c225:ByteArray→Option U9) (c244:(List Int)→(List Int)→Option U4):List FE:=[A7I c223,A7Q c225,C6H c244]
section
variable (c223:(List Int)→Option L8) (c225:ByteArray→Option U9) (c244:(List Int)→(List Int)→Option U4)
noncomputable def C9N (x0:ByteArray) (x1:ByteArray):Option B0u:=(c225 x0).bind fun r1=>((c225 x1).bind fun r2=>((c244 r1 r2).bind fun r3=>((c223 r3.1).bind fun r4=>((c223 r3.2).bind fun r5=>(some (r4,r5))))))
theorem F3Y (s:B9G.ask.T):B9G.ev E0 (D8I c223 c225 c244) [] s=C9N c223 c225 c244 s.1.1 s.1.2.1:=by kernel_rfl
end
noncomputable def D9J (c192:Bool→ByteArray→Option l6) (c215:ByteArray→ByteArray→Option A1J) (c222:ByteArray→ByteArray→Option B0u):List FE:=[A9e c192,C6N c215,D5j c222]
section
variable (c192:Bool→ByteArray→Option l6) (c215:ByteArray→ByteArray→Option A1J) (c222:ByteArray→ByteArray→Option B0u)
noncomputable def B4b (x0:TI) (x1:TI):Option A6B:=(c215 x0.2 x1.2).bind fun r1=>(B3 ((!(E6 r1 (⟨#[1]⟩:ByteArray)))) ((c222 x0.2 r1).bind fun r2=>((c222 x1.2 r1).bind fun r3=>((c192 (!(x0.1==x1.1)) r2.1).bind fun r4=>(some ((r4.1,r4.2),r3.1))))) ((c192 (!(x0.1==x1.1)) x0.2).bind fun r5=>(some ((r5.1,r5.2),x1.2))))
theorem E6i (s:B9r.ask.T):B9r.ev E0 (D9J c192 c215 c222) [] s=B4b c192 c215 c222 s.1.1 s.1.2.1:=by kernel_rfl
end
noncomputable def D3G (c149:TI→Option A4B) (c184:TI→TI→Option B2K) (c185:TI→TI→Option A6B) (c186:ByteArray→ByteArray→Option A3m):List FE:=[B9C c149,D9q c184,C6U c185,B9F c186]
section
variable (c149:TI→Option A4B) (c184:TI→TI→Option B2K) (c185:TI→TI→Option A6B) (c186:ByteArray→ByteArray→Option A3m)
noncomputable def B0O (x0:TQ) (x1:TQ):Option A0G:=B3 ((E6 x0.2 (⟨#[1]⟩:ByteArray))) (B3 ((E6 x1.2 (⟨#[1]⟩:ByteArray))) ((c184 x0.1 x1.1).bind fun r1=>((c149 (r1.1,r1.2)).bind fun r2=>(some (r2.1,r2.2)))) ((c184 x0.1 x1.1).bind fun r3=>((c186 x0.2 x1.2).bind fun r4=>((c185 (r3.1,r3.2) (false,r4)).bind fun r5=>(some (r5.1,r5.2)))))) ((c184 x0.1 x1.1).bind fun r6=>((c186 x0.2 x1.2).bind fun r7=>((c185 (r6.1,r6.2) (false,r7)).bind fun r8=>(some (r8.1,r8.2)))))
theorem E5t (s:C1A.ask.T):C1A.ev E0 (D3G c149 c184 c185 c186) [] s=B0O c149 c184 c185 c186 s.1.1 s.1.2.1:=by kernel_rfl
end
noncomputable def D0i:Sk:=⟨[(1, .d (.it .i64)),(5, .d (.li (.it .u64))),(6, .d (.li (.it .u64)))],[]⟩
noncomputable def C1p (gl0:Int→(List Int)→(List Int)→Option A0r):List (C9 A0r):=[⟨2,D0i,fun s=>gl0 s.1.1 s.1.2.1 s.1.2.2.1⟩]
noncomputable def D0s (c223:(List Int)→Option L8) (c224:(List Int)→(List Int)→Option i8) (c225:ByteArray→Option U9):List FE:=[A7I c223,D0U c224,A7Q c225]
section
variable (gl0:Int→(List Int)→(List Int)→Option A0r) (c223:(List Int)→Option L8) (c224:(List Int)→(List Int)→Option i8) (c225:ByteArray→Option U9)
noncomputable def C7w (x1:Int) (x5:(List Int)) (x6:(List Int)):Option A0r:=if x1>0 then(if Go.bits .and .i64 x1 1=1 then((c224 x5 x6).bind fun r1=>((c224 x6 x6).bind fun r2=>(if(0:Int)≤1 then(gl0 (x1/2) r1 r2)else(none))))else((c224 x6 x6).bind fun r3=>(if(0:Int)≤1 then(gl0 (x1/2) x5 r3)else(none))))else((c223 x5).bind fun r4=>(some r4))
theorem F3G (s0:C5 B0s.ask.bl) (s:D0i.T):B0s.po E0 (D0s c223 c224 c225) (C1p gl0) s0 0 (D0i.mk' s)=C7w gl0 c223 c224 s.1.1 s.1.2.1 s.1.2.2.1:=by kernel_rfl
noncomputable def C8x (x0:ByteArray) (x1:Int):Option A0r:=(c225 x0).bind fun r1=>(gl0 x1 ([1]:List Int) r1)
theorem E9h (s:B0s.ask.T):B0s.ev E0 (D0s c223 c224 c225) (C1p gl0) s=C8x gl0 c225 s.1.1 s.1.2.1:=by kernel_rfl
end
noncomputable def D1g (c188:ByteArray→Int→Option A0r) (c192:Bool→ByteArray→Option l6):List FE:=[C2H c188,A9e c192]
section
variable (c188:ByteArray→Int→Option A0r) (c192:Bool→ByteArray→Option l6)
noncomputable def C2w (x0:TI) (x1:Int):Option B1C:=B3 (x0.1) (if(2:Int)=0 then(none)else((c188 x0.2 x1).bind fun r1=>((c192 (decide (Int.tmod x1 2=1)) r1).bind fun r2=>(some (r2.1,r2.2))))) ((c188 x0.2 x1).bind fun r3=>((c192 false r3).bind fun r4=>(some (r4.1,r4.2))))
theorem E5U (s:B9d.ask.T):B9d.ev E0 (D1g c188 c192) [] s=C2w c188 c192 s.1.1 s.1.2.1:=by kernel_rfl
end
noncomputable def D6o (c187:TI→Int→Option B1C) (c188:ByteArray→Int→Option A0r):List FE:=[D3g c187,C2H c188]
section
variable (c187:TI→Int→Option B1C) (c188:ByteArray→Int→Option A0r)
noncomputable def D1F (x0:TQ) (x1:Int):Option B0q:=(c187 x0.1 x1).bind fun r1=>((c188 x0.2 x1).bind fun r2=>(some ((r1.1,r1.2),r2)))
theorem E5s (s:B9E.ask.T):B9E.ev E0 (D6o c187 c188) [] s=D1F c187 c188 s.1.1 s.1.2.1:=by kernel_rfl
end
noncomputable def D2N (c192:Bool→ByteArray→Option l6):List FE:=[A9e c192]
section
variable (c192:Bool→ByteArray→Option l6)
noncomputable def D1D (x0:TI):Option B3F:=(c192 (!x0.1) x0.2).bind fun r1=>(some (r1.1,r1.2))
theorem E5Z (s:B9K.ask.T):B9K.ev E0 (D2N c192) [] s=D1D c192 s.1.1:=by kernel_rfl
end
noncomputable def D6T (c190:TI→Option B3F):List FE:=[D6A c190]
section
variable (c190:TI→Option B3F)
noncomputable def B6j (x0:TQ):Option A7G:=(c190 x0.1).bind fun r1=>(some ((r1.1,r1.2),x0.2))
theorem E1r (s:B7C.ask.T):B7C.ev E0 (D6T c190) [] s=B6j c190 s.1.1:=by kernel_rfl
end
noncomputable def C9g:Sk:=⟨[(5, .f (.a (.ref 5))),(6, .f (.a (.ref 6))),(7, .f (.a (.ref 7))),(8, .d (.it .u64)),(27, .d (.it .i64)),(28, .d (.it .i64))],[(5, .own (.it .u64) true),(6, .own (.it .u64) true),(7, .own (.it .u64) true)]⟩
noncomputable def C4B (gl0:Int→Int→Int→(List Int)→(List Int)→(List Int)→Option A3V):List (C9 A3V):=[⟨7,C9g,fun s=>gl0 s.1.1 s.1.2.1 s.1.2.2.1 s.2.1 s.2.2.1 s.2.2.2.1⟩]
noncomputable def C8Q (c223:(List Int)→Option L8) (c225:ByteArray→Option U9) (c247:Int→Int→Int→Option A4o):List FE:=[A7I c223,A7Q c225,B9z c247]
section
variable (gl0:Int→Int→Int→(List Int)→(List Int)→(List Int)→Option A3V) (c223:(List Int)→Option L8) (c225:ByteArray→Option U9) (c247:Int→Int→Int→Option A4o)
noncomputable def C2F (x8:Int) (x27:Int) (x28:Int) (x5:(List Int)) (x6:(List Int)) (x7:(List Int)):Option A3V:=if x28<x27 then(if x28<(x6.length:Int)then(if 0≤x28 then(if x28<(x6.length:Int)then(if 0≤x28 then(if x28<(x5.length:Int)then((c247 (rd x5 x28) (rd x6 x28) x8).bind fun r1=>(if 0≤x28 then(if x28<(x7.length:Int)then(gl0 r1.2 x27 (wrap64 (x28+1)) x5 x6 (x7.set (x28:Int).toNat r1.1))else(none))else(none)))else(none))else(none))else(none))else(none))else(if 0≤x28 then(if x28<(x5.length:Int)then((c247 (rd x5 x28) 0 x8).bind fun r2=>(if 0≤x28 then(if x28<(x7.length:Int)then(gl0 r2.2 x27 (wrap64 (x28+1)) x5 x6 (x7.set (x28:Int).toNat r2.1))else(none))else(none)))else(none))else(none)))else(if 0≤(x5.length:Int)then(if(x5.length:Int)<(x7.length:Int)then((c223 (x7.set ((x5.length:Int):Int).toNat x8)).bind fun r3=>(some r3))else(none))else(none))
theorem F2N (s0:C5 B1V.ask.bl) (s:C9g.T):B1V.po E0 (C8Q c223 c225 c247) (C4B gl0) s0 0 (C9g.mk' s)=C2F gl0 c223 c247 s.1.1 s.1.2.1 s.1.2.2.1 s.2.1 s.2.2.1 s.2.2.2.1:=by kernel_rfl
noncomputable def C2X (x0:ByteArray) (x1:ByteArray):Option A3V:=(c225 x0).bind fun r1=>((c225 x1).bind fun r2=>(if(r1.length:Int)<(r2.length:Int)then(if 0≤wrap64 ((r2.length:Int)+1)then(if wrap64 ((r2.length:Int)+1)≤wrap64 ((r2.length:Int)+1)then(if(wrap64 ((r2.length:Int)+1):Int).toNat≤35184372088832 then(gl0 0 (r2.length:Int) 0 r2 r1 (List.replicate (wrap64 ((r2.length:Int)+1):Int).toNat (0:Int)))else(none))else(none))else(none))else(if 0≤wrap64 ((r1.length:Int)+1)then(if wrap64 ((r1.length:Int)+1)≤wrap64 ((r1.length:Int)+1)then(if(wrap64 ((r1.length:Int)+1):Int).toNat≤35184372088832 then(gl0 0 (r1.length:Int) 0 r1 r2 (List.replicate (wrap64 ((r1.length:Int)+1):Int).toNat (0:Int)))else(none))else(none))else(none))))
theorem E7W (s:B1V.ask.T):B1V.ev E0 (C8Q c223 c225 c247) (C4B gl0) s=C2X gl0 c225 s.1.1 s.1.2.1:=by kernel_rfl
end
noncomputable def C5m (x0:ByteArray) (x1:ByteArray):Option B2L:=if(x0.size:Int)<(x1.size:Int)then(some (-1))else(if(x0.size:Int)=(x1.size:Int)then(B3 ((Op.bytesLess x0.toList x1.toList)) (some (-1)) (B3 ((E6 x0 x1)) (some 0) (some 1)))else(B3 ((E6 x0 x1)) (some 0) (some 1)))
theorem E4U (s:C0f.ask.T):C0f.ev E0 [] [] s=C5m s.1.1 s.1.2.1:=by kernel_rfl
noncomputable def D0S:Sk:=⟨[(5, .f (.a (.ref 5))),(6, .f (.a (.ref 6))),(7, .d (.it .u64)),(15, .d (.it .i64)),(16, .d (.it .i64))],[(5, .own (.it .u64) true),(6, .own (.it .u64) true)]⟩
noncomputable def D1E (gl0:Int→Int→Int→(List Int)→(List Int)→Option A2k):List (C9 A2k):=[⟨4,D0S,fun s=>gl0 s.1.1 s.1.2.1 s.1.2.2.1 s.2.1 s.2.2.1⟩]
noncomputable def C4j (c223:(List Int)→Option L8) (c225:ByteArray→Option U9) (c248:Int→Int→Int→Option A9I):List FE:=[A7I c223,A7Q c225,C8E c248]
section
variable (gl0:Int→Int→Int→(List Int)→(List Int)→Option A2k) (c223:(List Int)→Option L8) (c225:ByteArray→Option U9) (c248:Int→Int→Int→Option A9I)
noncomputable def C4U (x7:Int) (x15:Int) (x16:Int) (x5:(List Int)) (x6:(List Int)):Option A2k:=if x16<x15 then(if x16<(x6.length:Int)then(if 0≤x16 then(if x16<(x6.length:Int)then(if 0≤x16 then(if x16<(x5.length:Int)then((c248 (rd x5 x16) (rd x6 x16) x7).bind fun r1=>(if 0≤x16 then(if x16<(x5.length:Int)then(gl0 r1.2 x15 (wrap64 (x16+1)) (x5.set (x16:Int).toNat r1.1) x6)else(none))else(none)))else(none))else(none))else(none))else(none))else(if 0≤x16 then(if x16<(x5.length:Int)then((c248 (rd x5 x16) 0 x7).bind fun r2=>(if 0≤x16 then(if x16<(x5.length:Int)then(gl0 r2.2 x15 (wrap64 (x16+1)) (x5.set (x16:Int).toNat r2.1) x6)else(none))else(none)))else(none))else(none)))else((c223 x5).bind fun r3=>(some r3))
theorem E9C (s0:C5 B1j.ask.bl) (s:D0S.T):B1j.po E0 (C4j c223 c225 c248) (D1E gl0) s0 0 (D0S.mk' s)=C4U gl0 c223 c248 s.1.1 s.1.2.1 s.1.2.2.1 s.2.1 s.2.2.1:=by kernel_rfl
noncomputable def D0q (x0:ByteArray) (x1:ByteArray):Option A2k:=(c225 x0).bind fun r1=>((c225 x1).bind fun r2=>(gl0 0 (r1.length:Int) 0 r1 r2))
theorem F2v (s:B1j.ask.T):B1j.ev E0 (C4j c223 c225 c248) (D1E gl0) s=D0q gl0 c225 s.1.1 s.1.2.1:=by kernel_rfl
end
noncomputable def D9t (c192:Bool→ByteArray→Option l6) (c226:ByteArray→ByteArray→Option A3V) (c227:ByteArray→ByteArray→Option B2L) (c228:ByteArray→ByteArray→Option A2k):List FE:=[A9e c192,D4I c226,D1h c227,D6y c228]
section
variable (c192:Bool→ByteArray→Option l6) (c226:ByteArray→ByteArray→Option A3V) (c227:ByteArray→ByteArray→Option B2L) (c228:ByteArray→ByteArray→Option A2k)
noncomputable def C3f (x0:TI) (x1:TI):Option B2d:=B3 ((x0.1==x1.1)) ((c226 x0.2 x1.2).bind fun r1=>((c192 x0.1 r1).bind fun r2=>(some (r2.1,r2.2)))) ((c227 x0.2 x1.2).bind fun r3=>(if r3<0 then((c228 x1.2 x0.2).bind fun r4=>((c192 x1.1 r4).bind fun r5=>(some (r5.1,r5.2))))else((c228 x0.2 x1.2).bind fun r6=>((c192 x0.1 r6).bind fun r7=>(some (r7.1,r7.2))))))
theorem F1w (s:B6U.ask.T):B6U.ev E0 (D9t c192 c226 c227 c228) [] s=C3f c192 c226 c227 c228 s.1.1 s.1.2.1:=by kernel_rfl
end
noncomputable def D2R (c149:TI→Option A4B) (c185:TI→TI→Option A6B) (c186:ByteArray→ByteArray→Option A3m) (c191:TI→TI→Option B2d) (c192:Bool→ByteArray→Option l6):List FE:=[B9C c149,C6U c185,B9F c186,D6h c191,A9e c192]
section
variable (c149:TI→Option A4B) (c185:TI→TI→Option A6B) (c186:ByteArray→ByteArray→Option A3m) (c191:TI→TI→Option B2d) (c192:Bool→ByteArray→Option l6)
noncomputable def B3C (x0:TQ) (x1:TQ):Option A4N:=B3 ((E6 x0.2 x1.2)) (B3 ((E6 x0.2 (⟨#[1]⟩:ByteArray))) ((c191 x0.1 x1.1).bind fun r1=>((c149 (r1.1,r1.2)).bind fun r2=>(some (r2.1,r2.2)))) ((c191 x0.1 x1.1).bind fun r3=>((c185 (r3.1,r3.2) (false,x0.2)).bind fun r4=>(some (r4.1,r4.2))))) ((c186 x0.1.2 x1.2).bind fun r5=>((c192 x0.1.1 r5).bind fun r6=>((c186 x1.1.2 x0.2).bind fun r7=>((c192 x1.1.1 r7).bind fun r8=>((c191 (r6.1,r6.2) (r8.1,r8.2)).bind fun r9=>((c186 x0.2 x1.2).bind fun r10=>((c185 (r9.1,r9.2) (false,r10)).bind fun r11=>(some (r11.1,r11.2)))))))))
theorem E8u (s:B8A.ask.T):B8A.ev E0 (D2R c149 c185 c186 c191 c192) [] s=B3C c149 c185 c186 c191 c192 s.1.1 s.1.2.1:=by kernel_rfl
end
noncomputable def D2d (c145:TQ→Option A7G) (c148:TQ→TQ→Option A4N):List FE:=[C1y c145,C0m c148]
section
variable (c145:TQ→Option A7G) (c148:TQ→TQ→Option A4N)
noncomputable def B88 (x0:TQ) (x1:TQ):Option R88:=(c145 x1).bind fun r1=>((c148 x0 (r1.1,r1.2)).bind fun r2=>(some (r2.1,r2.2)))
theorem e88 (s:D88.ask.T):D88.ev E0 (D2d c145 c148) [] s=B88 c145 c148 s.1.1 s.1.2.1:=by kernel_rfl
end
noncomputable def C7y:Sk:=⟨[(0, .d (.li tQ)),(3, .d (.it .i64))],[]⟩
noncomputable def C4g (gl0:TP→Int→Option R8):List (C9 R8):=[⟨2,C7y,fun s=>gl0 s.1.1 s.1.2.1⟩]
noncomputable def C4q (c152:TQ→Option A1i):List FE:=[B4x c152]
section
variable (gl0:TP→Int→Option R8) (c152:TQ→Option A1i)
noncomputable def A7Z (x0:TP) (x3:Int):Option R8:=if x3>0 then(if 0≤wrap64 (x3-1)then(if wrap64 (x3-1)<(x0.length:Int)then((c152 (C4 ((false,(⟨#[]⟩:ByteArray)),(⟨#[]⟩:ByteArray)) x0 (wrap64 (x3-1)))).bind fun r1=>(B3 (r1) (gl0 x0 (wrap64 (x3-1))) (if(0:Int)≤0 then(if 0≤x3 then(if x3≤x3 then(if x3≤(x0.length:Int)then(some (slice_ x0 0 x3))else(none))else(none))else(none))else(none))))else(none))else(none))else(if(0:Int)≤0 then(if 0≤x3 then(if x3≤x3 then(if x3≤(x0.length:Int)then(some (slice_ x0 0 x3))else(none))else(none))else(none))else(none))
theorem E0s (s0:C5 D92.ask.bl) (s:C7y.T):D92.po E0 (C4q c152) (C4g gl0) s0 0 (C7y.mk' s)=A7Z gl0 c152 s.1.1 s.1.2.1:=by kernel_rfl
noncomputable def B92 (x0:TP):Option R8:=gl0 x0 (x0.length:Int)
theorem e92 (s:D92.ask.T):D92.ev E0 (C4q c152) (C4g gl0) s=B92 gl0 s.1.1:=by kernel_rfl
end
noncomputable def B6J (x0:TQ):Option A3r:=some ((x0.1.1,x0.2),x0.1.2)
theorem F6e (s:B6y.ask.T):B6y.ev E0 [] [] s=B6J s.1.1:=by kernel_rfl
noncomputable def C3x (x0:TP):Option C1B:=some ([]:List TQ)
theorem E3r (s:C0P.ask.T):C0P.ev E0 [] [] s=C3x s.1.1:=by kernel_rfl
noncomputable def A6j (x0:TP):Option B6h:=if(([]:List TQ).length+x0.length)*40≤140737488355328 then(some (([]:List TQ)++x0))else(none)
theorem F2J (s:B6p.ask.T):B6p.ev E0 [] [] s=A6j s.1.1:=by kernel_rfl
noncomputable def C4G:Sk:=⟨[(0, .d (.li tQ)),(1, .d (.li tQ)),(6, .f (.a (.ref 6))),(7, .d (.it .i64)),(8, .f (.a (.ref 8))),(30, .d (.it .i64)),(31, .d (.it .i64))],[(6, .own tQ true),(8, .own tQ true)]⟩
noncomputable def C8g:Sk:=⟨[(1, .d (.li tQ)),(6, .f (.a (.ref 6))),(7, .d (.it .i64)),(8, .f (.a (.ref 8))),(10, .f (.a (.ptr 10 0 []))),(11, .d (.it .i64))],[(6, .own tQ true),(8, .own tQ true),(10, .cell tQ true)]⟩
noncomputable def C4K:Sk:=⟨[(1, .d (.li tQ)),(6, .f (.a (.ref 6))),(7, .d (.it .i64)),(8, .f (.a (.ref 8))),(10, .f (.a (.ptr 10 0 []))),(11, .d (.it .i64)),(12, .f (.a (.ptr 12 0 []))),(69, .d (.it .i64)),(70, .d (.it .i64))],[(6, .own tQ true),(8, .own tQ true),(10, .cell tQ true),(12, .cell tQ true)]⟩
noncomputable def B3g (gl0:TP→TP→Int→Int→Int→TP→TP→Option R5) (gl1:TP→Int→Int→TP→TP→TQ→Option R5) (gl2:TP→Int→Int→Int→Int→TP→TP→TQ→TQ→Option R5):List (C9 R5):=[⟨7,C4G,fun s=>gl0 s.1.1 s.1.2.1 s.1.2.2.1 s.1.2.2.2.1 s.1.2.2.2.2.1 s.2.1 s.2.2.1⟩,⟨13,C8g,fun s=>gl1 s.1.1 s.1.2.1 s.1.2.2.1 s.2.1 s.2.2.1 s.2.2.2.1⟩,⟨19,C4K,fun s=>gl2 s.1.1 s.1.2.1 s.1.2.2.1 s.1.2.2.2.1 s.1.2.2.2.2.1 s.2.1 s.2.2.1 s.2.2.2.1 s.2.2.2.2.1⟩]
noncomputable def B4P (c88:TQ→TQ→Option R88) (c89:Int→Option Z3) (c92:TP→Option R8) (c142:TQ→TQ→Option A0G) (c147:TQ→Option A3r) (c152:TQ→Option A1i) (c189:TP→Option B4h):List FE:=[B6K c88,A6Y c89,A7D c92,B2F c142,B8w c147,B4x c152,D7N c189]
section
variable (gl0:TP→TP→Int→Int→Int→TP→TP→Option R5) (gl1:TP→Int→Int→TP→TP→TQ→Option R5) (gl2:TP→Int→Int→Int→Int→TP→TP→TQ→TQ→Option R5) (c88:TQ→TQ→Option R88) (c89:Int→Option Z3) (c92:TP→Option R8) (c142:TQ→TQ→Option A0G) (c147:TQ→Option A3r) (c152:TQ→Option A1i) (c189:TP→Option B4h)
noncomputable def A8V (x0:TP) (x1:TP) (x7:Int) (x30:Int) (x31:Int) (x6:TP) (x8:TP):Option R5:=if x31<x30 then((c89 0).bind fun r1=>(if 0≤x31 then(if x31<(x8.length:Int)then(gl0 x0 x1 x7 x30 (wrap64 (x31+1)) x6 (x8.set (x31:Int).toNat (r1.1,r1.2)))else(none))else(none)))else(if 0≤wrap64 (x7-1)then(if wrap64 (x7-1)<(x1.length:Int)then((c147 (C4 ((false,(⟨#[]⟩:ByteArray)),(⟨#[]⟩:ByteArray)) x1 (wrap64 (x7-1)))).bind fun r2=>(gl1 x1 x7 (wrap64 ((x0.length:Int)-x7)) x6 x8 (r2.1,r2.2)))else(none))else(none))
theorem F6W (s0:C5 A3a.ask.bl) (s:C4G.T):A3a.po E0 (B4P c88 c89 c92 c142 c147 c152 c189) (B3g gl0 gl1 gl2) s0 0 (C4G.mk' s)=A8V gl0 gl1 c89 c147 s.1.1 s.1.2.1 s.1.2.2.1 s.1.2.2.2.1 s.1.2.2.2.2.1 s.2.1 s.2.2.1:=by kernel_rfl
noncomputable def A9c (x1:TP) (x7:Int) (x11:Int) (x6:TP) (x8:TP) (x10:TQ):Option R5:=if x11≥0 then(if 0≤wrap64 ((wrap64 (x11+x7))-1)then(if wrap64 ((wrap64 (x11+x7))-1)<(x6.length:Int)then((c142 (C4 ((false,(⟨#[]⟩:ByteArray)),(⟨#[]⟩:ByteArray)) x6 (wrap64 ((wrap64 (x11+x7))-1))) x10).bind fun r1=>(if 0≤x11 then(if x11<(x8.length:Int)then((c152 (r1.1,r1.2)).bind fun r2=>(B3 (r2) (gl1 x1 x7 (wrap64 (x11-1)) x6 (x8.set (x11:Int).toNat (r1.1,r1.2)) x10) (gl2 x1 x7 x11 (x1.length:Int) 0 x6 (x8.set (x11:Int).toNat (r1.1,r1.2)) x10 (r1.1,r1.2))))else(none))else(none)))else(none))else(none))else((c92 x8).bind fun r3=>(if(0:Int)≤0 then(if 0≤wrap64 (x7-1)then(if wrap64 (x7-1)≤(x6.length:Int)then(if(x6.length:Int)≤(x6.length:Int)then((c92 (slice_ x6 0 (wrap64 (x7-1)))).bind fun r4=>(some (r3,r4)))else(none))else(none))else(none))else(none)))
theorem E2y (s0:C5 A3a.ask.bl) (s:C8g.T):A3a.po E0 (B4P c88 c89 c92 c142 c147 c152 c189) (B3g gl0 gl1 gl2) s0 1 (C8g.mk' s)=A9c gl1 gl2 c92 c142 c152 s.1.1 s.1.2.1 s.1.2.2.1 s.2.1 s.2.2.1 s.2.2.2.1:=by kernel_rfl
noncomputable def A8X (x1:TP) (x7:Int) (x11:Int) (x69:Int) (x70:Int) (x6:TP) (x8:TP) (x10:TQ) (x12:TQ):Option R5:=if x70<x69 then(if 0≤wrap64 (x11+x70)then(if wrap64 (x11+x70)<(x6.length:Int)then(if 0≤x70 then(if x70<(x1.length:Int)then((c142 x12 (C4 ((false,(⟨#[]⟩:ByteArray)),(⟨#[]⟩:ByteArray)) x1 x70)).bind fun r1=>((c88 (C4 ((false,(⟨#[]⟩:ByteArray)),(⟨#[]⟩:ByteArray)) x6 (wrap64 (x11+x70))) (r1.1,r1.2)).bind fun r2=>(if 0≤wrap64 (x11+x70)then(if wrap64 (x11+x70)<(x6.length:Int)then(gl2 x1 x7 x11 x69 (wrap64 (x70+1)) (x6.set (wrap64 (x11+x70):Int).toNat (r2.1,r2.2)) x8 x10 x12)else(none))else(none))))else(none))else(none))else(none))else(none))else(gl1 x1 x7 (wrap64 (x11-1)) x6 x8 x10)
theorem E2X (s0:C5 A3a.ask.bl) (s:C4K.T):A3a.po E0 (B4P c88 c89 c92 c142 c147 c152 c189) (B3g gl0 gl1 gl2) s0 2 (C4K.mk' s)=A8X gl1 gl2 c88 c142 s.1.1 s.1.2.1 s.1.2.2.1 s.1.2.2.2.1 s.1.2.2.2.2.1 s.2.1 s.2.2.1 s.2.2.2.1 s.2.2.2.2.1:=by kernel_rfl
noncomputable def B5D (x0:TP) (x1:TP):Option R5:=(c189 x0).bind fun r1=>(if(x0.length:Int)<(x1.length:Int)then(some (([]:List TQ),r1))else(if 0≤wrap64 ((wrap64 ((x0.length:Int)-(x1.length:Int)))+1)then(if wrap64 ((wrap64 ((x0.length:Int)-(x1.length:Int)))+1)≤wrap64 ((wrap64 ((x0.length:Int)-(x1.length:Int)))+1)then(if(wrap64 ((wrap64 ((x0.length:Int)-(x1.length:Int)))+1):Int).toNat≤7036874417766 then(gl0 x0 x1 (x1.length:Int) ((List.replicate (wrap64 ((wrap64 ((x0.length:Int)-(x1.length:Int)))+1):Int).toNat ((false,(⟨#[]⟩:ByteArray)),(⟨#[]⟩:ByteArray))).length:Int) 0 r1 (List.replicate (wrap64 ((wrap64 ((x0.length:Int)-(x1.length:Int)))+1):Int).toNat ((false,(⟨#[]⟩:ByteArray)),(⟨#[]⟩:ByteArray))))else(none))else(none))else(none)))
theorem E9s (s:A3a.ask.T):A3a.ev E0 (B4P c88 c89 c92 c142 c147 c152 c189) (B3g gl0 gl1 gl2) s=B5D gl0 c189 s.1.1 s.1.2.1:=by kernel_rfl
end
noncomputable def C2C:Sk:=⟨[(0, .d (.li tQ)),(1, .d (.li tQ)),(4, .f (.a (.ptr 4 0 []))),(5, .f (.a (.ptr 5 0 [])))],[(4, .cell tQ true),(5, .cell tQ true)]⟩
noncomputable def C5N (gl0:TP→TP→TQ→TQ→Option R84):List (C9 R84):=[⟨2,C2C,fun s=>gl0 s.1.1 s.1.2.1 s.2.1 s.2.2.1⟩]
noncomputable def C5Z (c89:Int→Option Z3) (c142:TQ→TQ→Option A0G) (c143:TQ→Int→Option B0q) (c144:TP→TP→Option R5) (c145:TQ→Option A7G):List FE:=[A6Y c89,B2F c142,D8u c143,B9y c144,C1y c145]
section
variable (gl0:TP→TP→TQ→TQ→Option R84) (c89:Int→Option Z3) (c142:TQ→TQ→Option A0G) (c143:TQ→Int→Option B0q) (c144:TP→TP→Option R5) (c145:TQ→Option A7G)
noncomputable def D0H (x0:TP) (x1:TP) (x4:TQ) (x5:TQ):Option R84:=if wrap64 ((x1.length:Int)-1)<0 then(if wrap64 ((x0.length:Int)-1)>0 then((c89 0).bind fun r1=>(some (r1.1,r1.2)))else(if wrap64 ((x1.length:Int)-1)<0 then(some (x5.1,x5.2))else(if wrap64 ((x1.length:Int)-1)=0 then(if(0:Int)≤0 then(if 0<(x1.length:Int)then((c143 (C4 ((false,(⟨#[]⟩:ByteArray)),(⟨#[]⟩:ByteArray)) x1 0) (wrap64 ((x0.length:Int)-1))).bind fun r2=>((c142 x5 (r2.1,r2.2)).bind fun r3=>(some (r3.1,r3.2))))else(none))else(none))else((c144 x0 x1).bind fun r4=>(if(r4.2.length:Int)=0 then((c89 0).bind fun r5=>(some (r5.1,r5.2)))else(if(2:Int)=0 then(none)else(if Int.tmod (wrap64 ((wrap64 ((x0.length:Int)-1))*(wrap64 ((x1.length:Int)-1)))) 2=1 then((c145 x5).bind fun r6=>(if 0≤wrap64 ((x1.length:Int)-1)then(if wrap64 ((x1.length:Int)-1)<(x1.length:Int)then((c143 (C4 ((false,(⟨#[]⟩:ByteArray)),(⟨#[]⟩:ByteArray)) x1 (wrap64 ((x1.length:Int)-1))) (wrap64 ((wrap64 ((wrap64 ((x0.length:Int)-1))-(r4.2.length:Int)))+1))).bind fun r7=>((c142 (r6.1,r6.2) (r7.1,r7.2)).bind fun r8=>(gl0 x1 r4.2 x4 (r8.1,r8.2))))else(none))else(none)))else(if 0≤wrap64 ((x1.length:Int)-1)then(if wrap64 ((x1.length:Int)-1)<(x1.length:Int)then((c143 (C4 ((false,(⟨#[]⟩:ByteArray)),(⟨#[]⟩:ByteArray)) x1 (wrap64 ((x1.length:Int)-1))) (wrap64 ((wrap64 ((wrap64 ((x0.length:Int)-1))-(r4.2.length:Int)))+1))).bind fun r9=>((c142 x5 (r9.1,r9.2)).bind fun r10=>(gl0 x1 r4.2 x4 (r10.1,r10.2))))else(none))else(none)))))))))else(if wrap64 ((x1.length:Int)-1)<0 then(some (x5.1,x5.2))else(if wrap64 ((x1.length:Int)-1)=0 then(if(0:Int)≤0 then(if 0<(x1.length:Int)then((c143 (C4 ((false,(⟨#[]⟩:ByteArray)),(⟨#[]⟩:ByteArray)) x1 0) (wrap64 ((x0.length:Int)-1))).bind fun r11=>((c142 x5 (r11.1,r11.2)).bind fun r12=>(some (r12.1,r12.2))))else(none))else(none))else((c144 x0 x1).bind fun r13=>(if(r13.2.length:Int)=0 then((c89 0).bind fun r14=>(some (r14.1,r14.2)))else(if(2:Int)=0 then(none)else(if Int.tmod (wrap64 ((wrap64 ((x0.length:Int)-1))*(wrap64 ((x1.length:Int)-1)))) 2=1 then((c145 x5).bind fun r15=>(if 0≤wrap64 ((x1.length:Int)-1)then(if wrap64 ((x1.length:Int)-1)<(x1.length:Int)then((c143 (C4 ((false,(⟨#[]⟩:ByteArray)),(⟨#[]⟩:ByteArray)) x1 (wrap64 ((x1.length:Int)-1))) (wrap64 ((wrap64 ((wrap64 ((x0.length:Int)-1))-(r13.2.length:Int)))+1))).bind fun r16=>((c142 (r15.1,r15.2) (r16.1,r16.2)).bind fun r17=>(gl0 x1 r13.2 x4 (r17.1,r17.2))))else(none))else(none)))else(if 0≤wrap64 ((x1.length:Int)-1)then(if wrap64 ((x1.length:Int)-1)<(x1.length:Int)then((c143 (C4 ((false,(⟨#[]⟩:ByteArray)),(⟨#[]⟩:ByteArray)) x1 (wrap64 ((x1.length:Int)-1))) (wrap64 ((wrap64 ((wrap64 ((x0.length:Int)-1))-(r13.2.length:Int)))+1))).bind fun r18=>((c142 x5 (r18.1,r18.2)).bind fun r19=>(gl0 x1 r13.2 x4 (r19.1,r19.2))))else(none))else(none))))))))
theorem F6Q (s0:C5 D84.ask.bl) (s:C2C.T):D84.po E0 (C5Z c89 c142 c143 c144 c145) (C5N gl0) s0 0 (C2C.mk' s)=D0H gl0 c89 c142 c143 c144 c145 s.1.1 s.1.2.1 s.2.1 s.2.2.1:=by kernel_rfl
noncomputable def B84 (x0:TP) (x1:TP):Option R84:=(c89 1).bind fun r1=>(gl0 x0 x1 ((false,(⟨#[]⟩:ByteArray)),(⟨#[]⟩:ByteArray)) (r1.1,r1.2))
theorem e84 (s:D84.ask.T):D84.ev E0 (C5Z c89 c142 c143 c144 c145) (C5N gl0) s=B84 gl0 c89 s.1.1 s.1.2.1:=by kernel_rfl
end
noncomputable def D6I (c89:Int→Option Z3):List FE:=[A6Y c89]
section
variable (c89:Int→Option Z3)
noncomputable def B4l (x0:TP) (x1:Int):Option A6P:=if x1<0 then((c89 0).bind fun r1=>(some (r1.1,r1.2)))else(if x1≥(x0.length:Int)then((c89 0).bind fun r2=>(some (r2.1,r2.2)))else(if 0≤x1 then(if x1<(x0.length:Int)then(some ((C4 ((false,(⟨#[]⟩:ByteArray)),(⟨#[]⟩:ByteArray)) x0 x1).1,(C4 ((false,(⟨#[]⟩:ByteArray)),(⟨#[]⟩:ByteArray)) x0 x1).2))else(none))else(none)))
theorem E9p (s:B8Z.ask.T):B8Z.ev E0 (D6I c89) [] s=B4l c89 s.1.1 s.1.2.1:=by kernel_rfl
end
noncomputable def C9G:Sk:=⟨[(0, .d (.li tQ)),(1, .d (.li tQ)),(5, .f (.a (.ref 5))),(14, .d (.it .i64)),(15, .d (.it .i64))],[(5, .own tQ true)]⟩
noncomputable def C9y (gl0:TP→TP→Int→Int→TP→Option d7):List (C9 d7):=[⟨3,C9G,fun s=>gl0 s.1.1 s.1.2.1 s.1.2.2.1 s.1.2.2.2.1 s.2.1⟩]
noncomputable def D0x (c92:TP→Option R8) (c148:TQ→TQ→Option A4N) (c151:TP→Int→Option A6P):List FE:=[A7D c92,C0m c148,C4S c151]
section
variable (gl0:TP→TP→Int→Int→TP→Option d7) (c92:TP→Option R8) (c148:TQ→TQ→Option A4N) (c151:TP→Int→Option A6P)
noncomputable def A8I (x0:TP) (x1:TP) (x14:Int) (x15:Int) (x5:TP):Option d7:=if x15<x14 then((c151 x0 x15).bind fun r1=>((c151 x1 x15).bind fun r2=>((c148 (r1.1,r1.2) (r2.1,r2.2)).bind fun r3=>(if 0≤x15 then(if x15<(x5.length:Int)then(gl0 x0 x1 x14 (wrap64 (x15+1)) (x5.set (x15:Int).toNat (r3.1,r3.2)))else(none))else(none)))))else((c92 x5).bind fun r4=>(some r4))
theorem E0k (s0:C5 D90.ask.bl) (s:C9G.T):D90.po E0 (D0x c92 c148 c151) (C9y gl0) s0 0 (C9G.mk' s)=A8I gl0 c92 c148 c151 s.1.1 s.1.2.1 s.1.2.2.1 s.1.2.2.2.1 s.2.1:=by kernel_rfl
noncomputable def B90 (x0:TP) (x1:TP):Option d7:=if 0≤mx (x0.length:Int) (x1.length:Int)then(if mx (x0.length:Int) (x1.length:Int)≤mx (x0.length:Int) (x1.length:Int)then(if(mx (x0.length:Int) (x1.length:Int):Int).toNat≤7036874417766 then(gl0 x0 x1 ((List.replicate (mx (x0.length:Int) (x1.length:Int):Int).toNat ((false,(⟨#[]⟩:ByteArray)),(⟨#[]⟩:ByteArray))).length:Int) 0 (List.replicate (mx (x0.length:Int) (x1.length:Int):Int).toNat ((false,(⟨#[]⟩:ByteArray)),(⟨#[]⟩:ByteArray))))else(none))else(none))else(none)
theorem e90 (s:D90.ask.T):D90.ev E0 (D0x c92 c148 c151) (C9y gl0) s=B90 gl0 s.1.1 s.1.2.1:=by kernel_rfl
end
noncomputable def C4b:Sk:=⟨[(0, .d (.li tQ)),(1, .d (.li tQ)),(5, .f (.a (.ref 5))),(27, .d (.it .i64)),(28, .d (.it .i64))],[(5, .own tQ true)]⟩
noncomputable def C1v:Sk:=⟨[(1, .d (.li tQ)),(5, .f (.a (.ref 5))),(36, .d (.li tQ)),(37, .d (.it .i64)),(38, .d (.it .i64))],[(5, .own tQ true)]⟩
noncomputable def C8V:Sk:=⟨[(1, .d (.li tQ)),(5, .f (.a (.ref 5))),(7, .d (.it .i64)),(8, .f (.a (.ptr 8 0 []))),(36, .d (.li tQ)),(37, .d (.it .i64)),(38, .d (.it .i64)),(45, .d (.li tQ)),(46, .d (.it .i64)),(47, .d (.it .i64))],[(5, .own tQ true),(8, .cell tQ true)]⟩
noncomputable def B4K (gl0:TP→TP→Int→Int→TP→Option P6) (gl1:TP→TP→Int→Int→TP→Option P6) (gl2:TP→Int→TP→Int→Int→TP→Int→Int→TP→TQ→Option P6):List (C9 P6):=[⟨5,C4b,fun s=>gl0 s.1.1 s.1.2.1 s.1.2.2.1 s.1.2.2.2.1 s.2.1⟩,⟨10,C1v,fun s=>gl1 s.1.1 s.1.2.1 s.1.2.2.1 s.1.2.2.2.1 s.2.1⟩,⟨14,C8V,fun s=>gl2 s.1.1 s.1.2.1 s.1.2.2.1 s.1.2.2.2.1 s.1.2.2.2.2.1 s.1.2.2.2.2.2.1 s.1.2.2.2.2.2.2.1 s.1.2.2.2.2.2.2.2.1 s.2.1 s.2.2.1⟩]
noncomputable def B4d (c89:Int→Option Z3) (c92:TP→Option R8) (c142:TQ→TQ→Option A0G) (c148:TQ→TQ→Option A4N) (c152:TQ→Option A1i):List FE:=[A6Y c89,A7D c92,B2F c142,C0m c148,B4x c152]
section
variable (gl0:TP→TP→Int→Int→TP→Option P6) (gl1:TP→TP→Int→Int→TP→Option P6) (gl2:TP→Int→TP→Int→Int→TP→Int→Int→TP→TQ→Option P6) (c89:Int→Option Z3) (c92:TP→Option R8) (c142:TQ→TQ→Option A0G) (c148:TQ→TQ→Option A4N) (c152:TQ→Option A1i)
noncomputable def A9g (x0:TP) (x1:TP) (x27:Int) (x28:Int) (x5:TP):Option P6:=if x28<x27 then((c89 0).bind fun r1=>(if 0≤x28 then(if x28<(x5.length:Int)then(gl0 x0 x1 x27 (wrap64 (x28+1)) (x5.set (x28:Int).toNat (r1.1,r1.2)))else(none))else(none)))else(gl1 x1 x0 (x0.length:Int) 0 x5)
theorem E8s (s0:C5 D91.ask.bl) (s:C4b.T):D91.po E0 (B4d c89 c92 c142 c148 c152) (B4K gl0 gl1 gl2) s0 0 (C4b.mk' s)=A9g gl0 gl1 c89 s.1.1 s.1.2.1 s.1.2.2.1 s.1.2.2.2.1 s.2.1:=by kernel_rfl
noncomputable def A7i (x1:TP) (x36:TP) (x37:Int) (x38:Int) (x5:TP):Option P6:=if x38<x37 then(if 0≤x38 then(if x38<(x36.length:Int)then((c152 (C4 ((false,(⟨#[]⟩:ByteArray)),(⟨#[]⟩:ByteArray)) x36 x38)).bind fun r1=>(B3 (r1) (gl1 x1 x36 x37 (wrap64 (x38+1)) x5) (gl2 x1 x38 x36 x37 x38 x1 (x1.length:Int) 0 x5 (C4 ((false,(⟨#[]⟩:ByteArray)),(⟨#[]⟩:ByteArray)) x36 x38))))else(none))else(none))else((c92 x5).bind fun r2=>(some r2))
theorem E0J (s0:C5 D91.ask.bl) (s:C1v.T):D91.po E0 (B4d c89 c92 c142 c148 c152) (B4K gl0 gl1 gl2) s0 1 (C1v.mk' s)=A7i gl1 gl2 c92 c152 s.1.1 s.1.2.1 s.1.2.2.1 s.1.2.2.2.1 s.2.1:=by kernel_rfl
noncomputable def A8j (x1:TP) (x7:Int) (x36:TP) (x37:Int) (x38:Int) (x45:TP) (x46:Int) (x47:Int) (x5:TP) (x8:TQ):Option P6:=if x47<x46 then(if 0≤x47 then(if x47<(x45.length:Int)then(if 0≤wrap64 (x7+x47)then(if wrap64 (x7+x47)<(x5.length:Int)then((c142 x8 (C4 ((false,(⟨#[]⟩:ByteArray)),(⟨#[]⟩:ByteArray)) x45 x47)).bind fun r1=>((c148 (C4 ((false,(⟨#[]⟩:ByteArray)),(⟨#[]⟩:ByteArray)) x5 (wrap64 (x7+x47))) (r1.1,r1.2)).bind fun r2=>(if 0≤wrap64 (x7+x47)then(if wrap64 (x7+x47)<(x5.length:Int)then(gl2 x1 x7 x36 x37 x38 x45 x46 (wrap64 (x47+1)) (x5.set (wrap64 (x7+x47):Int).toNat (r2.1,r2.2)) x8)else(none))else(none))))else(none))else(none))else(none))else(none))else(gl1 x1 x36 x37 (wrap64 (x38+1)) x5)
theorem F8T (s0:C5 D91.ask.bl) (s:C8V.T):D91.po E0 (B4d c89 c92 c142 c148 c152) (B4K gl0 gl1 gl2) s0 2 (C8V.mk' s)=A8j gl1 gl2 c142 c148 s.1.1 s.1.2.1 s.1.2.2.1 s.1.2.2.2.1 s.1.2.2.2.2.1 s.1.2.2.2.2.2.1 s.1.2.2.2.2.2.2.1 s.1.2.2.2.2.2.2.2.1 s.2.1 s.2.2.1:=by kernel_rfl
noncomputable def B91 (x0:TP) (x1:TP):Option P6:=if(x0.length:Int)=0 then(some ([]:List TQ))else(if(x1.length:Int)=0 then(some ([]:List TQ))else(if 0≤wrap64 ((wrap64 ((x0.length:Int)+(x1.length:Int)))-1)then(if wrap64 ((wrap64 ((x0.length:Int)+(x1.length:Int)))-1)≤wrap64 ((wrap64 ((x0.length:Int)+(x1.length:Int)))-1)then(if(wrap64 ((wrap64 ((x0.length:Int)+(x1.length:Int)))-1):Int).toNat≤7036874417766 then(gl0 x0 x1 ((List.replicate (wrap64 ((wrap64 ((x0.length:Int)+(x1.length:Int)))-1):Int).toNat ((false,(⟨#[]⟩:ByteArray)),(⟨#[]⟩:ByteArray))).length:Int) 0 (List.replicate (wrap64 ((wrap64 ((x0.length:Int)+(x1.length:Int)))-1):Int).toNat ((false,(⟨#[]⟩:ByteArray)),(⟨#[]⟩:ByteArray))))else(none))else(none))else(none)))
theorem e91 (s:D91.ask.T):D91.ev E0 (B4d c89 c92 c142 c148 c152) (B4K gl0 gl1 gl2) s=B91 gl0 s.1.1 s.1.2.1:=by kernel_rfl
end
noncomputable def D6O (c144:TP→TP→Option R5):List FE:=[B9y c144]
section
variable (c144:TP→TP→Option R5)
noncomputable def B5C (x0:TP) (x1:TP):Option A4A:=(c144 x1 x0).bind fun r1=>(some r1.2)
theorem E0u (s:C0z.ask.T):C0z.ev E0 (D6O c144) [] s=B5C c144 s.1.1 s.1.2.1:=by kernel_rfl
end
noncomputable def D4t (c91:TP→TP→Option P6) (c165:TP→TP→Option A4A):List FE:=[B3r c91,B7t c165]
section
variable (c91:TP→TP→Option P6) (c165:TP→TP→Option A4A)
noncomputable def B3I (x0:TP) (x1:TP) (x2:TP):Option A3z:=(c91 x1 x2).bind fun r1=>((c165 x0 r1).bind fun r2=>(some r2))
theorem E9d (s:B7Z.ask.T):B7Z.ev E0 (D4t c91 c165) [] s=B3I c91 c165 s.1.1 s.1.2.1 s.1.2.2.1:=by kernel_rfl
end
noncomputable def C7C:Sk:=⟨[(1, .d (.li (.li tQ))),(2, .d (.li tQ)),(3, .f (.a (.ptr 3 0 []))),(7, .d (.li tQ)),(8, .d (.it .i64))],[(3, .cell (.ag (.li tQ)) true)]⟩
noncomputable def C8U (gl0:TF→TP→TP→Int→TP→Option R85):List (C9 R85):=[⟨3,C7C,fun s=>gl0 s.1.1 s.1.2.1 s.1.2.2.1 s.1.2.2.2.1 s.2.1⟩]
noncomputable def D1R (c90:TP→TP→Option d7) (c146:TP→TP→TP→Option A3z):List FE:=[B5H c90,B9e c146]
section
variable (gl0:TF→TP→TP→Int→TP→Option R85) (c90:TP→TP→Option d7) (c146:TP→TP→TP→Option A3z)
noncomputable def A8N (x1:TF) (x2:TP) (x7:TP) (x8:Int) (x3:TP):Option R85:=if x8≥0 then((c146 x3 x7 x2).bind fun r1=>(if 0≤x8 then(if x8<(x1.length:Int)then((c90 r1 (C4 ([]:List TQ) x1 x8)).bind fun r2=>(gl0 x1 x2 r2 (wrap64 (x8-1)) x3))else(none))else(none)))else(some x7)
theorem E5k (s0:C5 D85.ask.bl) (s:C7C.T):D85.po E0 (D1R c90 c146) (C8U gl0) s0 0 (C7C.mk' s)=A8N gl0 c90 c146 s.1.1 s.1.2.1 s.1.2.2.1 s.1.2.2.2.1 s.2.1:=by kernel_rfl
noncomputable def B85 (x0:TP) (x1:TF) (x2:TP):Option R85:=gl0 x1 x2 ([]:List TQ) (wrap64 ((x1.length:Int)-1)) x0
theorem e85 (s:D85.ask.T):D85.ev E0 (D1R c90 c146) (C8U gl0) s=B85 gl0 s.1.1 s.1.2.1 s.1.2.2.1:=by kernel_rfl
end
noncomputable def C4h:Sk:=⟨[(3, .f (.a (.ref 3))),(9, .d (.li (.it .i64))),(10, .d (.it .i64)),(11, .d (.it .i64))],[(3, .own tQ true)]⟩
noncomputable def C6m (gl0:(List Int)→Int→Int→TP→Option d9):List (C9 d9):=[⟨3,C4h,fun s=>gl0 s.1.1 s.1.2.1 s.1.2.2.1 s.2.1⟩]
noncomputable def C4o (c89:Int→Option Z3) (c92:TP→Option R8):List FE:=[A6Y c89,A7D c92]
section
variable (gl0:(List Int)→Int→Int→TP→Option d9) (c89:Int→Option Z3) (c92:TP→Option R8)
noncomputable def C3m (x9:(List Int)) (x10:Int) (x11:Int) (x3:TP):Option d9:=if x11<x10 then(if 0≤x11 then(if x11<(x9.length:Int)then((c89 (rd x9 x11)).bind fun r1=>(if 0≤x11 then(if x11<(x3.length:Int)then(gl0 x9 x10 (wrap64 (x11+1)) (x3.set (x11:Int).toNat (r1.1,r1.2)))else(none))else(none)))else(none))else(none))else((c92 x3).bind fun r2=>(some r2))
theorem E5v (s0:C5 D86.ask.bl) (s:C4h.T):D86.po E0 (C4o c89 c92) (C6m gl0) s0 0 (C4h.mk' s)=C3m gl0 c89 c92 s.1.1 s.1.2.1 s.1.2.2.1 s.2.1:=by kernel_rfl
noncomputable def B86 (x0:(List Int)):Option d9:=if 0≤(x0.length:Int)then(if(x0.length:Int)≤(x0.length:Int)then(if((x0.length:Int):Int).toNat≤7036874417766 then(gl0 x0 (x0.length:Int) 0 (List.replicate ((x0.length:Int):Int).toNat ((false,(⟨#[]⟩:ByteArray)),(⟨#[]⟩:ByteArray))))else(none))else(none))else(none)
theorem e86 (s:D86.ask.T):D86.ev E0 (C4o c89 c92) (C6m gl0) s=B86 gl0 s.1.1:=by kernel_rfl
end
noncomputable def D6W (c142:TQ→TQ→Option A0G) (c147:TQ→Option A3r):List FE:=[B2F c142,B8w c147]
section
variable (c142:TQ→TQ→Option A0G) (c147:TQ→Option A3r)
noncomputable def B87 (x0:TQ) (x1:TQ):Option R87:=(c147 x1).bind fun r1=>((c142 x0 (r1.1,r1.2)).bind fun r2=>(some (r2.1,r2.2)))
theorem e87 (s:D87.ask.T):D87.ev E0 (D6W c142 c147) [] s=B87 c142 c147 s.1.1 s.1.2.1:=by kernel_rfl
end
noncomputable def B3P (x0:TQ):Option B1c:=if(x0.1.2.size:Int)>1024 then(some true)else(some (decide ((x0.2.size:Int)>1024)))
theorem F4N (s:C0T.ask.T):C0T.ev E0 [] [] s=B3P s.1.1:=by kernel_rfl
noncomputable def D0Q:Sk:=⟨[(0, .d (.li tQ)),(1, .f (.cl 154 [])),(7, .d (.it .i64)),(8, .d (.it .i64))],[]⟩
noncomputable def C1b (gl0:TP→Int→Int→Option A2E):List (C9 A2E):=[⟨2,D0Q,fun s=>gl0 s.1.1 s.1.2.1 s.1.2.2.1⟩]
noncomputable def C5s (c154:TQ→Option B1c):List FE:=[D3l c154]
section
variable (gl0:TP→Int→Int→Option A2E) (c154:TQ→Option B1c)
noncomputable def A8x (x0:TP) (x7:Int) (x8:Int):Option A2E:=if x8<x7 then(if 0≤x8 then(if x8<(x0.length:Int)then((c154 (C4 ((false,(⟨#[]⟩:ByteArray)),(⟨#[]⟩:ByteArray)) x0 x8)).bind fun r1=>(B3 (r1) (some x8) (gl0 x0 x7 (wrap64 (x8+1)))))else(none))else(none))else(some (-1))
theorem E2K (s0:C5 B2w.ask.bl) (s:D0Q.T):B2w.po E0 (C5s c154) (C1b gl0) s0 0 (D0Q.mk' s)=A8x gl0 c154 s.1.1 s.1.2.1 s.1.2.2.1:=by kernel_rfl
noncomputable def B4V (x0:TP):Option A2E:=gl0 x0 (x0.length:Int) 0
theorem E1k (s:B2w.ask.T):B2w.ev E0 (C5s c154) (C1b gl0) s=B4V gl0 s.1.1:=by kernel_rfl
end
noncomputable def D8L (c194Large:TP→Option A2E):List FE:=[D2O c194Large]
section
variable (c194Large:TP→Option A2E)
noncomputable def C1U (x0:TP):Option A6W:=(c194Large x0).bind fun r1=>(some (decide (r1≥0)))
theorem E9X (s:C0M.ask.T):C0M.ev E0 (D8L c194Large) [] s=C1U c194Large s.1.1:=by kernel_rfl
end
noncomputable def D4h (c153Large:TP→Option A6W):List FE:=[C3J c153Large]
section
variable (c153Large:TP→Option A6W)
noncomputable def B93 (x0:TP):Option R93:=if(x0.length:Int)>65 then(some true)else((c153Large x0).bind fun r1=>(some r1))
theorem e93 (s:D93.ask.T):D93.ev E0 (D4h c153Large) [] s=B93 c153Large s.1.1:=by kernel_rfl
end
noncomputable def D0W:Sk:=⟨[(1, .d (.li (.li tQ))),(2, .f (.a (.ptr 2 0 []))),(7, .d (.it .i64)),(8, .f (.a (.ref 8))),(38, .d (.it .i64)),(39, .d (.it .i64))],[(2, .cell (.ag (.li tQ)) true),(8, .own tQ true)]⟩
noncomputable def C8Z:Sk:=⟨[(7, .d (.it .i64)),(8, .f (.a (.ref 8))),(10, .d (.it .i64))],[(8, .own tQ true)]⟩
noncomputable def C7k:Sk:=⟨[(7, .d (.it .i64)),(8, .f (.a (.ref 8))),(10, .d (.it .i64)),(11, .d (.it .i64))],[(8, .own tQ true)]⟩
noncomputable def C7p:Sk:=⟨[(8, .f (.a (.ref 8))),(12, .d (.li tQ)),(13, .d (.it .i64))],[(8, .own tQ true)]⟩
noncomputable def B0Y (gl0:TF→Int→Int→Int→TP→TP→Option R6) (gl1:Int→Int→TP→Option R6) (gl2:Int→Int→Int→TP→Option R6) (gl3:TP→Int→TP→Option R6):List (C9 R6):=[⟨11,D0W,fun s=>gl0 s.1.1 s.1.2.1 s.1.2.2.1 s.1.2.2.2.1 s.2.1 s.2.2.1⟩,⟨16,C8Z,fun s=>gl1 s.1.1 s.1.2.1 s.2.1⟩,⟨19,C7k,fun s=>gl2 s.1.1 s.1.2.1 s.1.2.2.1 s.2.1⟩,⟨24,C7p,fun s=>gl3 s.1.1 s.1.2.1 s.2.1⟩]
noncomputable def B0M (c83:TP→(List TF)→Option U2) (c84:TP→TP→Option R84) (c85:TP→TF→TP→Option R85) (c86:(List Int)→Option d9) (c87:TQ→TQ→Option R87) (c88:TQ→TQ→Option R88) (c89:Int→Option Z3) (c90:TP→TP→Option d7) (c91:TP→TP→Option P6) (c92:TP→Option R8) (c93:TP→Option R93):List FE:=[A9n c83,D2i c84,C2K c85,B4f c86,D1s c87,B6K c88,A6Y c89,B5H c90,B3r c91,A7D c92,D7X c93]
section
variable (gl0:TF→Int→Int→Int→TP→TP→Option R6) (gl1:Int→Int→TP→Option R6) (gl2:Int→Int→Int→TP→Option R6) (gl3:TP→Int→TP→Option R6) (c83:TP→(List TF)→Option U2) (c84:TP→TP→Option R84) (c85:TP→TF→TP→Option R85) (c86:(List Int)→Option d9) (c87:TQ→TQ→Option R87) (c88:TQ→TQ→Option R88) (c89:Int→Option Z3) (c90:TP→TP→Option d7) (c91:TP→TP→Option P6) (c92:TP→Option R8) (c93:TP→Option R93)
noncomputable def C5P (x1:TF) (x7:Int) (x38:Int) (x39:Int) (x2:TP) (x8:TP):Option R6:=if x39<x38 then((c86 ([x39]:List Int)).bind fun r1=>((c85 x2 x1 r1).bind fun r2=>((c84 x2 r2).bind fun r3=>(if 0≤x39 then(if x39<(x8.length:Int)then(gl0 x1 x7 x38 (wrap64 (x39+1)) x2 (x8.set (x39:Int).toNat (r3.1,r3.2)))else(none))else(none)))))else(gl1 x7 1 x8)
theorem E4f (s0:C5 D17.ask.bl) (s:D0W.T):D17.po E0 (B0M c83 c84 c85 c86 c87 c88 c89 c90 c91 c92 c93) (B0Y gl0 gl1 gl2 gl3) s0 0 (D0W.mk' s)=C5P gl0 gl1 c84 c85 c86 s.1.1 s.1.2.1 s.1.2.2.1 s.1.2.2.2.1 s.2.1 s.2.2.1:=by kernel_rfl
noncomputable def D0n (x7:Int) (x10:Int) (x8:TP):Option R6:=if x10≤x7 then(gl2 x7 x10 x7 x8)else(gl3 ([]:List TQ) x7 x8)
theorem F3o (s0:C5 D17.ask.bl) (s:C8Z.T):D17.po E0 (B0M c83 c84 c85 c86 c87 c88 c89 c90 c91 c92 c93) (B0Y gl0 gl1 gl2 gl3) s0 1 (C8Z.mk' s)=D0n gl2 gl3 s.1.1 s.1.2.1 s.2.1:=by kernel_rfl
noncomputable def C4c (x7:Int) (x10:Int) (x11:Int) (x8:TP):Option R6:=if x11≥x10 then(if 0≤x11 then(if x11<(x8.length:Int)then(if 0≤wrap64 (x11-1)then(if wrap64 (x11-1)<(x8.length:Int)then((c88 (C4 ((false,(⟨#[]⟩:ByteArray)),(⟨#[]⟩:ByteArray)) x8 x11) (C4 ((false,(⟨#[]⟩:ByteArray)),(⟨#[]⟩:ByteArray)) x8 (wrap64 (x11-1)))).bind fun r1=>((c89 x10).bind fun r2=>((c87 (r1.1,r1.2) (r2.1,r2.2)).bind fun r3=>(if 0≤x11 then(if x11<(x8.length:Int)then(gl2 x7 x10 (wrap64 (x11-1)) (x8.set (x11:Int).toNat (r3.1,r3.2)))else(none))else(none)))))else(none))else(none))else(none))else(none))else(gl1 x7 (wrap64 (x10+1)) x8)
theorem F2n (s0:C5 D17.ask.bl) (s:C7k.T):D17.po E0 (B0M c83 c84 c85 c86 c87 c88 c89 c90 c91 c92 c93) (B0Y gl0 gl1 gl2 gl3) s0 2 (C7k.mk' s)=C4c gl1 gl2 c87 c88 c89 s.1.1 s.1.2.1 s.1.2.2.1 s.2.1:=by kernel_rfl
noncomputable def C8T (x12:TP) (x13:Int) (x8:TP):Option R6:=if x13≥0 then((c86 ([wrap64 (0-x13),1]:List Int)).bind fun r1=>((c91 x12 r1).bind fun r2=>(if 0≤x13 then(if x13<(x8.length:Int)then((c92 ([C4 ((false,(⟨#[]⟩:ByteArray)),(⟨#[]⟩:ByteArray)) x8 x13]:List TQ)).bind fun r3=>((c90 r2 r3).bind fun r4=>(gl3 r4 (wrap64 (x13-1)) x8)))else(none))else(none))))else((c93 x12).bind fun r5=>(B3 (r5) (some (([]:List TQ),4)) (some (x12,0))))
theorem E8H (s0:C5 D17.ask.bl) (s:C7p.T):D17.po E0 (B0M c83 c84 c85 c86 c87 c88 c89 c90 c91 c92 c93) (B0Y gl0 gl1 gl2 gl3) s0 3 (C7p.mk' s)=C8T gl3 c86 c90 c91 c92 c93 s.1.1 s.1.2.1 s.2.1:=by kernel_rfl
noncomputable def B17 (x0:TP) (x1:TF):Option R6:=(c83 x0 ([x1]:List TF)).bind fun r1=>(if r1≠0 then(some (([]:List TQ),r1))else(if(x1.length:Int)=0 then(some (([]:List TQ),0))else(if wrap64 ((wrap64 ((x0.length:Int)-1))*(wrap64 ((x1.length:Int)-1)))>64 then(some (([]:List TQ),4))else(if 0≤wrap64 ((wrap64 ((wrap64 ((x0.length:Int)-1))*(wrap64 ((x1.length:Int)-1))))+1)then(if wrap64 ((wrap64 ((wrap64 ((x0.length:Int)-1))*(wrap64 ((x1.length:Int)-1))))+1)≤wrap64 ((wrap64 ((wrap64 ((x0.length:Int)-1))*(wrap64 ((x1.length:Int)-1))))+1)then(if(wrap64 ((wrap64 ((wrap64 ((x0.length:Int)-1))*(wrap64 ((x1.length:Int)-1))))+1):Int).toNat≤7036874417766 then(gl0 x1 (wrap64 ((wrap64 ((x0.length:Int)-1))*(wrap64 ((x1.length:Int)-1)))) ((List.replicate (wrap64 ((wrap64 ((wrap64 ((x0.length:Int)-1))*(wrap64 ((x1.length:Int)-1))))+1):Int).toNat ((false,(⟨#[]⟩:ByteArray)),(⟨#[]⟩:ByteArray))).length:Int) 0 x0 (List.replicate (wrap64 ((wrap64 ((wrap64 ((x0.length:Int)-1))*(wrap64 ((x1.length:Int)-1))))+1):Int).toNat ((false,(⟨#[]⟩:ByteArray)),(⟨#[]⟩:ByteArray))))else(none))else(none))else(none)))))
theorem e17 (s:D17.ask.T):D17.ev E0 (B0M c83 c84 c85 c86 c87 c88 c89 c90 c91 c92 c93) (B0Y gl0 gl1 gl2 gl3) s=B17 gl0 c83 s.1.1 s.1.2.1:=by kernel_rfl
end
noncomputable def C3o:Sk:=⟨[(0, .d (.li tQ)),(1, .d (.li tQ)),(12, .d (.it .i64)),(13, .d (.it .i64))],[]⟩
noncomputable def D0A (gl0:TP→TP→Int→Int→Option s8):List (C9 s8):=[⟨4,C3o,fun s=>gl0 s.1.1 s.1.2.1 s.1.2.2.1 s.1.2.2.2.1⟩]
section
variable (gl0:TP→TP→Int→Int→Option s8)
noncomputable def A9F (x0:TP) (x1:TP) (x12:Int) (x13:Int):Option s8:=if x13<x12 then(if 0≤x13 then(if x13<(x0.length:Int)then(if 0≤x13 then(if x13<(x1.length:Int)then(B3 ((!((((((C4 ((false,(⟨#[]⟩:ByteArray)),(⟨#[]⟩:ByteArray)) x0 x13).1).1)==(((C4 ((false,(⟨#[]⟩:ByteArray)),(⟨#[]⟩:ByteArray)) x1 x13).1).1))&&(E6 (((C4 ((false,(⟨#[]⟩:ByteArray)),(⟨#[]⟩:ByteArray)) x0 x13).1).2) (((C4 ((false,(⟨#[]⟩:ByteArray)),(⟨#[]⟩:ByteArray)) x1 x13).1).2)))&&(E6 ((C4 ((false,(⟨#[]⟩:ByteArray)),(⟨#[]⟩:ByteArray)) x0 x13).2) ((C4 ((false,(⟨#[]⟩:ByteArray)),(⟨#[]⟩:ByteArray)) x1 x13).2))))) (some false) (gl0 x0 x1 x12 (wrap64 (x13+1))))else(none))else(none))else(none))else(none))else(some true)
theorem F4W (s0:C5 D18.ask.bl) (s:C3o.T):D18.po E0 [] (D0A gl0) s0 0 (C3o.mk' s)=A9F gl0 s.1.1 s.1.2.1 s.1.2.2.1 s.1.2.2.2.1:=by kernel_rfl
noncomputable def B18 (x0:TP) (x1:TP):Option s8:=if(x0.length:Int)≠(x1.length:Int)then(some false)else(gl0 x0 x1 (x0.length:Int) 0)
theorem e18 (s:D18.ask.T):D18.ev E0 [] (D0A gl0) s=B18 gl0 s.1.1 s.1.2.1:=by kernel_rfl
end
noncomputable def C8K:Sk:=⟨[(0, .d (.li tQ)),(3, .d (.it .i64))],[]⟩
noncomputable def C7T (gl0:TP→Int→Option V8):List (C9 V8):=[⟨2,C8K,fun s=>gl0 s.1.1 s.1.2.1⟩]
noncomputable def C9F (c123:TQ→Option A5q):List FE:=[C3P c123]
section
variable (gl0:TP→Int→Option V8) (c123:TQ→Option A5q)
noncomputable def A8A (x0:TP) (x3:Int):Option V8:=if x3>0 then(if 0≤wrap64 (x3-1)then(if wrap64 (x3-1)<(x0.length:Int)then((c123 (C4 ((false,(⟨#[]⟩:ByteArray)),(⟨#[]⟩:ByteArray)) x0 (wrap64 (x3-1)))).bind fun r1=>(if r1=0 then(gl0 x0 (wrap64 (x3-1)))else(if(0:Int)≤0 then(if 0≤x3 then(if x3≤(x0.length:Int)then(if(x0.length:Int)≤(x0.length:Int)then(if(([]:List TQ).length+(slice_ x0 0 x3).length)*40≤140737488355328 then(some (([]:List TQ)++(slice_ x0 0 x3)))else(none))else(none))else(none))else(none))else(none))))else(none))else(none))else(if(0:Int)≤0 then(if 0≤x3 then(if x3≤(x0.length:Int)then(if(x0.length:Int)≤(x0.length:Int)then(if(([]:List TQ).length+(slice_ x0 0 x3).length)*40≤140737488355328 then(some (([]:List TQ)++(slice_ x0 0 x3)))else(none))else(none))else(none))else(none))else(none))
theorem E3x (s0:C5 D48.ask.bl) (s:C8K.T):D48.po E0 (C9F c123) (C7T gl0) s0 0 (C8K.mk' s)=A8A gl0 c123 s.1.1 s.1.2.1:=by kernel_rfl
noncomputable def B48 (x0:TP):Option V8:=gl0 x0 (x0.length:Int)
theorem e48 (s:D48.ask.T):D48.ev E0 (C9F c123) (C7T gl0) s=B48 gl0 s.1.1:=by kernel_rfl
end
noncomputable def C6t:Sk:=⟨[(3, .f (.a (.ref 3))),(6, .d (.li (.it .i64))),(7, .d (.it .i64)),(8, .d (.it .i64))],[(3, .own tQ true)]⟩
noncomputable def C1r (gl0:(List Int)→Int→Int→TP→Option R22):List (C9 R22):=[⟨3,C6t,fun s=>gl0 s.1.1 s.1.2.1 s.1.2.2.1 s.2.1⟩]
noncomputable def C2k (c48:TP→Option V8) (c81:Int→Option Z5):List FE:=[A8U c48,A5y c81]
section
variable (gl0:(List Int)→Int→Int→TP→Option R22) (c48:TP→Option V8) (c81:Int→Option Z5)
noncomputable def C8R (x6:(List Int)) (x7:Int) (x8:Int) (x3:TP):Option R22:=if x8<x7 then(if 0≤x8 then(if x8<(x6.length:Int)then((c81 (rd x6 x8)).bind fun r1=>(if(x3.length+1)*40≤140737488355328 then(gl0 x6 x7 (wrap64 (x8+1)) (x3++([(r1.1,r1.2)]:List TQ)))else(none)))else(none))else(none))else((c48 x3).bind fun r2=>(some r2))
theorem E2i (s0:C5 D22.ask.bl) (s:C6t.T):D22.po E0 (C2k c48 c81) (C1r gl0) s0 0 (C6t.mk' s)=C8R gl0 c48 c81 s.1.1 s.1.2.1 s.1.2.2.1 s.2.1:=by kernel_rfl
noncomputable def B22 (x0:(List Int)):Option R22:=gl0 x0 (x0.length:Int) 0 ([]:List TQ)
theorem e22 (s:D22.ask.T):D22.ev E0 (C2k c48 c81) (C1r gl0) s=B22 gl0 s.1.1:=by kernel_rfl
end
noncomputable def C6n:Sk:=⟨[(3, .f (.a (.ptr 3 0 []))),(5, .f (.a (.ref 5))),(11, .d (.li tQ)),(12, .d (.it .i64)),(13, .d (.it .i64))],[(3, .cell tQ true),(5, .own tQ true)]⟩
noncomputable def C3M (gl0:TP→Int→Int→TQ→TP→Option A2n):List (C9 A2n):=[⟨3,C6n,fun s=>gl0 s.1.1 s.1.2.1 s.1.2.2.1 s.2.1 s.2.2.1⟩]
noncomputable def C5L (c92:TP→Option R8) (c142:TQ→TQ→Option A0G):List FE:=[A7D c92,B2F c142]
section
variable (gl0:TP→Int→Int→TQ→TP→Option A2n) (c92:TP→Option R8) (c142:TQ→TQ→Option A0G)
noncomputable def C7D (x11:TP) (x12:Int) (x13:Int) (x3:TQ) (x5:TP):Option A2n:=if x13<x12 then(if 0≤x13 then(if x13<(x11.length:Int)then((c142 (C4 ((false,(⟨#[]⟩:ByteArray)),(⟨#[]⟩:ByteArray)) x11 x13) x3).bind fun r1=>(if 0≤x13 then(if x13<(x5.length:Int)then(gl0 x11 x12 (wrap64 (x13+1)) x3 (x5.set (x13:Int).toNat (r1.1,r1.2)))else(none))else(none)))else(none))else(none))else((c92 x5).bind fun r2=>(some r2))
theorem E0p (s0:C5 B1h.ask.bl) (s:C6n.T):B1h.po E0 (C5L c92 c142) (C3M gl0) s0 0 (C6n.mk' s)=C7D gl0 c92 c142 s.1.1 s.1.2.1 s.1.2.2.1 s.2.1 s.2.2.1:=by kernel_rfl
noncomputable def C9P (x0:TP) (x1:TQ):Option A2n:=if 0≤(x0.length:Int)then(if(x0.length:Int)≤(x0.length:Int)then(if((x0.length:Int):Int).toNat≤7036874417766 then(gl0 x0 (x0.length:Int) 0 x1 (List.replicate ((x0.length:Int):Int).toNat ((false,(⟨#[]⟩:ByteArray)),(⟨#[]⟩:ByteArray))))else(none))else(none))else(none)
theorem E6v (s:B1h.ask.T):B1h.ev E0 (C5L c92 c142) (C3M gl0) s=C9P gl0 s.1.1 s.1.2.1:=by kernel_rfl
end
noncomputable def C3u:Sk:=⟨[(0, .d (.li tQ)),(1, .d (.li tQ)),(5, .f (.a (.ref 5))),(14, .d (.it .i64)),(15, .d (.it .i64))],[(5, .own tQ true)]⟩
noncomputable def C8C (gl0:TP→TP→Int→Int→TP→Option A1F):List (C9 A1F):=[⟨3,C3u,fun s=>gl0 s.1.1 s.1.2.1 s.1.2.2.1 s.1.2.2.2.1 s.2.1⟩]
noncomputable def C8u (c88:TQ→TQ→Option R88) (c92:TP→Option R8) (c151:TP→Int→Option A6P):List FE:=[B6K c88,A7D c92,C4S c151]
section
variable (gl0:TP→TP→Int→Int→TP→Option A1F) (c88:TQ→TQ→Option R88) (c92:TP→Option R8) (c151:TP→Int→Option A6P)
noncomputable def C3q (x0:TP) (x1:TP) (x14:Int) (x15:Int) (x5:TP):Option A1F:=if x15<x14 then((c151 x0 x15).bind fun r1=>((c151 x1 x15).bind fun r2=>((c88 (r1.1,r1.2) (r2.1,r2.2)).bind fun r3=>(if 0≤x15 then(if x15<(x5.length:Int)then(gl0 x0 x1 x14 (wrap64 (x15+1)) (x5.set (x15:Int).toNat (r3.1,r3.2)))else(none))else(none)))))else((c92 x5).bind fun r4=>(some r4))
theorem F5D (s0:C5 B2p.ask.bl) (s:C3u.T):B2p.po E0 (C8u c88 c92 c151) (C8C gl0) s0 0 (C3u.mk' s)=C3q gl0 c88 c92 c151 s.1.1 s.1.2.1 s.1.2.2.1 s.1.2.2.2.1 s.2.1:=by kernel_rfl
noncomputable def C6Z (x0:TP) (x1:TP):Option A1F:=if 0≤mx (x0.length:Int) (x1.length:Int)then(if mx (x0.length:Int) (x1.length:Int)≤mx (x0.length:Int) (x1.length:Int)then(if(mx (x0.length:Int) (x1.length:Int):Int).toNat≤7036874417766 then(gl0 x0 x1 ((List.replicate (mx (x0.length:Int) (x1.length:Int):Int).toNat ((false,(⟨#[]⟩:ByteArray)),(⟨#[]⟩:ByteArray))).length:Int) 0 (List.replicate (mx (x0.length:Int) (x1.length:Int):Int).toNat ((false,(⟨#[]⟩:ByteArray)),(⟨#[]⟩:ByteArray))))else(none))else(none))else(none)
theorem F7A (s:B2p.ask.T):B2p.ev E0 (C8u c88 c92 c151) (C8C gl0) s=C6Z gl0 s.1.1 s.1.2.1:=by kernel_rfl
end
noncomputable def C4d:Sk:=⟨[(0, .d (.li tQ)),(6, .d (.li tQ)),(7, .d (.li tQ)),(8, .d (.li tQ)),(9, .d (.li tQ))],[]⟩
noncomputable def C6d (gl0:TP→TP→TP→TP→TP→Option A1O):List (C9 A1O):=[⟨4,C4d,fun s=>gl0 s.1.1 s.1.2.1 s.1.2.2.1 s.1.2.2.2.1 s.1.2.2.2.2.1⟩]
noncomputable def C4V (c86:(List Int)→Option d9) (c91:TP→TP→Option P6) (c137:TP→TQ→Option A2n) (c144:TP→TP→Option R5) (c147:TQ→Option A3r) (c165:TP→TP→Option A4A) (c166:TP→TP→Option A1F):List FE:=[B4f c86,B3r c91,D4G c137,B9y c144,B8w c147,B7t c165,C9q c166]
section
variable (gl0:TP→TP→TP→TP→TP→Option A1O) (c86:(List Int)→Option d9) (c91:TP→TP→Option P6) (c137:TP→TQ→Option A2n) (c144:TP→TP→Option R5) (c147:TQ→Option A3r) (c165:TP→TP→Option A4A) (c166:TP→TP→Option A1F)
noncomputable def C7V (x0:TP) (x6:TP) (x7:TP) (x8:TP) (x9:TP):Option A1O:=if(x7.length:Int)>1 then((c144 x6 x7).bind fun r1=>((c91 r1.1 x9).bind fun r2=>((c166 x8 r2).bind fun r3=>(gl0 x0 x7 r1.2 x9 r3))))else(if(x7.length:Int)=0 then(some (([]:List TQ),false))else(if(0:Int)≤0 then(if 0<(x7.length:Int)then((c147 (C4 ((false,(⟨#[]⟩:ByteArray)),(⟨#[]⟩:ByteArray)) x7 0)).bind fun r4=>((c137 x9 (r4.1,r4.2)).bind fun r5=>((c165 x0 r5).bind fun r6=>(some (r6,true)))))else(none))else(none)))
theorem E1p (s0:C5 B0e.ask.bl) (s:C4d.T):B0e.po E0 (C4V c86 c91 c137 c144 c147 c165 c166) (C6d gl0) s0 0 (C4d.mk' s)=C7V gl0 c91 c137 c144 c147 c165 c166 s.1.1 s.1.2.1 s.1.2.2.1 s.1.2.2.2.1 s.1.2.2.2.2.1:=by kernel_rfl
noncomputable def C6v (x0:TP) (x1:TP):Option A1O:=(c165 x0 x1).bind fun r1=>((c86 ([1]:List Int)).bind fun r2=>(gl0 x0 x0 r1 ([]:List TQ) r2))
theorem F2U (s:B0e.ask.T):B0e.ev E0 (C4V c86 c91 c137 c144 c147 c165 c166) (C6d gl0) s=C6v gl0 c86 c165 s.1.1 s.1.2.1:=by kernel_rfl
end
noncomputable def C8O:Sk:=⟨[(0, .d (.li (.li tQ))),(3, .d (.it .i64))],[]⟩
noncomputable def C7l (gl0:TF→Int→Option Y2):List (C9 Y2):=[⟨2,C8O,fun s=>gl0 s.1.1 s.1.2.1⟩]
section
variable (gl0:TF→Int→Option Y2)
noncomputable def A8u (x0:TF) (x3:Int):Option Y2:=if x3>0 then(if 0≤wrap64 (x3-1)then(if wrap64 (x3-1)<(x0.length:Int)then(if((C4 ([]:List TQ) x0 (wrap64 (x3-1))).length:Int)=0 then(gl0 x0 (wrap64 (x3-1)))else(if(0:Int)≤0 then(if 0≤x3 then(if x3≤x3 then(if x3≤(x0.length:Int)then(some (slice_ x0 0 x3))else(none))else(none))else(none))else(none)))else(none))else(none))else(if(0:Int)≤0 then(if 0≤x3 then(if x3≤x3 then(if x3≤(x0.length:Int)then(some (slice_ x0 0 x3))else(none))else(none))else(none))else(none))
theorem E7I (s0:C5 B2f.ask.bl) (s:C8O.T):B2f.po E0 [] (C7l gl0) s0 0 (C8O.mk' s)=A8u gl0 s.1.1 s.1.2.1:=by kernel_rfl
noncomputable def B3u (x0:TF):Option Y2:=gl0 x0 (x0.length:Int)
theorem E6p (s:B2f.ask.T):B2f.ev E0 [] (C7l gl0) s=B3u gl0 s.1.1:=by kernel_rfl
end
noncomputable def C3z:Sk:=⟨[(2, .d (.li (.li tQ))),(3, .d (.li tQ)),(4, .f (.a (.ptr 4 0 []))),(10, .f (.a (.ref 10))),(11, .d (.it .i64)),(12, .f (.a (.ref 12))),(13, .d (.it .i64))],[(4, .cell (.ag (.li tQ)) true),(10, .own (.li tQ) true),(12, .own (.li tQ) true)]⟩
noncomputable def C9I:Sk:=⟨[(2, .d (.li (.li tQ))),(3, .d (.li tQ)),(4, .f (.a (.ptr 4 0 []))),(10, .f (.a (.ref 10))),(11, .d (.it .i64)),(12, .f (.a (.ref 12))),(13, .d (.it .i64)),(14, .d (.li tQ)),(60, .d (.it .i64)),(61, .d (.it .i64))],[(4, .cell (.ag (.li tQ)) true),(10, .own (.li tQ) true),(12, .own (.li tQ) true)]⟩
noncomputable def C0N (gl0:TF→TP→Int→Int→TP→TF→TF→Option d5) (gl1:TF→TP→Int→Int→TP→Int→Int→TP→TF→TF→Option d5):List (C9 d5):=[⟨7,C3z,fun s=>gl0 s.1.1 s.1.2.1 s.1.2.2.1 s.1.2.2.2.1 s.2.1 s.2.2.1 s.2.2.2.1⟩,⟨13,C9I,fun s=>gl1 s.1.1 s.1.2.1 s.1.2.2.1 s.1.2.2.2.1 s.1.2.2.2.2.1 s.1.2.2.2.2.2.1 s.1.2.2.2.2.2.2.1 s.2.1 s.2.2.1 s.2.2.2.1⟩]
noncomputable def B6w (c122:TF→Option Y2) (c146:TP→TP→TP→Option A3z) (c166:TP→TP→Option A1F):List FE:=[B1A c122,B9e c146,C9q c166]
section
variable (gl0:TF→TP→Int→Int→TP→TF→TF→Option d5) (gl1:TF→TP→Int→Int→TP→Int→Int→TP→TF→TF→Option d5) (c122:TF→Option Y2) (c146:TP→TP→TP→Option A3z) (c166:TP→TP→Option A1F)
noncomputable def C6k (x2:TF) (x3:TP) (x11:Int) (x13:Int) (x4:TP) (x10:TF) (x12:TF):Option d5:=if x13≥0 then(if 0≤wrap64 ((wrap64 (x13+x11))-1)then(if wrap64 ((wrap64 (x13+x11))-1)<(x10.length:Int)then((c146 x4 (C4 ([]:List TQ) x10 (wrap64 ((wrap64 (x13+x11))-1))) x3).bind fun r1=>(if 0≤x13 then(if x13<(x12.length:Int)then(if(r1.length:Int)=0 then(gl0 x2 x3 x11 (wrap64 (x13-1)) x4 x10 (x12.set (x13:Int).toNat r1))else(gl1 x2 x3 x11 x13 r1 (wrap64 (x11-1)) 0 x4 x10 (x12.set (x13:Int).toNat r1)))else(none))else(none)))else(none))else(none))else((c122 x12).bind fun r2=>(if(0:Int)≤0 then(if 0≤wrap64 (x11-1)then(if wrap64 (x11-1)≤(x10.length:Int)then(if(x10.length:Int)≤(x10.length:Int)then((c122 (slice_ x10 0 (wrap64 (x11-1)))).bind fun r3=>(some (r2,r3)))else(none))else(none))else(none))else(none)))
theorem F0C (s0:C5 A6D.ask.bl) (s:C3z.T):A6D.po E0 (B6w c122 c146 c166) (C0N gl0 gl1) s0 0 (C3z.mk' s)=C6k gl0 gl1 c122 c146 s.1.1 s.1.2.1 s.1.2.2.1 s.1.2.2.2.1 s.2.1 s.2.2.1 s.2.2.2.1:=by kernel_rfl
noncomputable def C6O (x2:TF) (x3:TP) (x11:Int) (x13:Int) (x14:TP) (x60:Int) (x61:Int) (x4:TP) (x10:TF) (x12:TF):Option d5:=if x61<x60 then(if 0≤wrap64 (x13+x61)then(if wrap64 (x13+x61)<(x10.length:Int)then(if 0≤x61 then(if x61<(x2.length:Int)then((c146 x4 x14 (C4 ([]:List TQ) x2 x61)).bind fun r1=>((c166 (C4 ([]:List TQ) x10 (wrap64 (x13+x61))) r1).bind fun r2=>(if 0≤wrap64 (x13+x61)then(if wrap64 (x13+x61)<(x10.length:Int)then(gl1 x2 x3 x11 x13 x14 x60 (wrap64 (x61+1)) x4 (x10.set (wrap64 (x13+x61):Int).toNat r2) x12)else(none))else(none))))else(none))else(none))else(none))else(none))else(gl0 x2 x3 x11 (wrap64 (x13-1)) x4 x10 x12)
theorem F2l (s0:C5 A6D.ask.bl) (s:C9I.T):A6D.po E0 (B6w c122 c146 c166) (C0N gl0 gl1) s0 1 (C9I.mk' s)=C6O gl0 gl1 c146 c166 s.1.1 s.1.2.1 s.1.2.2.1 s.1.2.2.2.1 s.1.2.2.2.2.1 s.1.2.2.2.2.2.1 s.1.2.2.2.2.2.2.1 s.2.1 s.2.2.1 s.2.2.2.1:=by kernel_rfl
noncomputable def D0m (x0:TP) (x1:TF) (x2:TF) (x3:TP):Option d5:=if(([]:List TP).length+x1.length)*24≤140737488355328 then(if(x1.length:Int)<(x2.length:Int)then((c122 (([]:List TP)++x1)).bind fun r1=>(some (([]:List TP),r1)))else(if 0≤wrap64 ((wrap64 ((x1.length:Int)-(x2.length:Int)))+1)then(if wrap64 ((wrap64 ((x1.length:Int)-(x2.length:Int)))+1)≤wrap64 ((wrap64 ((x1.length:Int)-(x2.length:Int)))+1)then(if(wrap64 ((wrap64 ((x1.length:Int)-(x2.length:Int)))+1):Int).toNat≤11728124029610 then(gl0 x2 x3 (x2.length:Int) (wrap64 ((x1.length:Int)-(x2.length:Int))) x0 (([]:List TP)++x1) (List.replicate (wrap64 ((wrap64 ((x1.length:Int)-(x2.length:Int)))+1):Int).toNat ([]:List TQ)))else(none))else(none))else(none)))else(none)
theorem E2e (s:A6D.ask.T):A6D.ev E0 (B6w c122 c146 c166) (C0N gl0 gl1) s=D0m gl0 c122 s.1.1 s.1.2.1 s.1.2.2.1 s.1.2.2.2.1:=by kernel_rfl
end
noncomputable def D7K (c153Large:TP→Option A6W):List FE:=[C3J c153Large]
section
variable (c153Large:TP→Option A6W)
noncomputable def C8h (x0:TP):Option B0j:=(c153Large x0).bind fun r1=>(some r1)
theorem F6k (s:B6d.ask.T):B6d.ev E0 (D7K c153Large) [] s=C8h c153Large s.1.1:=by kernel_rfl
end
noncomputable def C9c:Sk:=⟨[(0, .d (.li (.li tQ))),(1, .f (.cl 176 [])),(7, .d (.it .i64)),(8, .d (.it .i64))],[]⟩
noncomputable def C6P (gl0:TF→Int→Int→Option A3U):List (C9 A3U):=[⟨2,C9c,fun s=>gl0 s.1.1 s.1.2.1 s.1.2.2.1⟩]
noncomputable def C1Q (c176:TP→Option B0j):List FE:=[D2y c176]
section
variable (gl0:TF→Int→Int→Option A3U) (c176:TP→Option B0j)
noncomputable def A2Z (x0:TF) (x7:Int) (x8:Int):Option A3U:=if x8<x7 then(if 0≤x8 then(if x8<(x0.length:Int)then((c176 (C4 ([]:List TQ) x0 x8)).bind fun r1=>(B3 (r1) (some x8) (gl0 x0 x7 (wrap64 (x8+1)))))else(none))else(none))else(some (-1))
theorem F5f (s0:C5 B0g.ask.bl) (s:C9c.T):B0g.po E0 (C1Q c176) (C6P gl0) s0 0 (C9c.mk' s)=A2Z gl0 c176 s.1.1 s.1.2.1 s.1.2.2.1:=by kernel_rfl
noncomputable def A9C (x0:TF):Option A3U:=gl0 x0 (x0.length:Int) 0
theorem E1C (s:B0g.ask.T):B0g.ev E0 (C1Q c176) (C6P gl0) s=A9C gl0 s.1.1:=by kernel_rfl
end
noncomputable def D7k (c216Large:TF→Option A3U):List FE:=[D3c c216Large]
section
variable (c216Large:TF→Option A3U)
noncomputable def C4w (x0:TF):Option B1U:=(c216Large x0).bind fun r1=>(some (decide (r1≥0)))
theorem E6s (s:B7G.ask.T):B7G.ev E0 (D7k c216Large) [] s=C4w c216Large s.1.1:=by kernel_rfl
end
noncomputable def D2p (c175Large:TF→Option B1U):List FE:=[D3r c175Large]
section
variable (c175Large:TF→Option B1U)
noncomputable def C4x (x0:TF):Option A6J:=(c175Large x0).bind fun r1=>(some r1)
theorem F6x (s:C0I.ask.T):C0I.ev E0 (D2p c175Large) [] s=C4x c175Large s.1.1:=by kernel_rfl
end
noncomputable def D7R (c128:TF→Option A6J):List FE:=[C2r c128]
section
variable (c128:TF→Option A6J)
noncomputable def B3L (x0:TF):Option A1h:=if(x0.length:Int)>65 then(some true)else((c128 x0).bind fun r1=>(some r1))
theorem E4R (s:B6q.ask.T):B6q.ev E0 (D7R c128) [] s=B3L c128 s.1.1:=by kernel_rfl
end
noncomputable def D8z (c83:TP→(List TF)→Option U2) (c106:TP→TP→Option A1O) (c107:TP→TF→TF→TP→Option d5) (c108:TF→Option A1h):List FE:=[A9n c83,D1H c106,C1a c107,B3j c108]
section
variable (c83:TP→(List TF)→Option U2) (c106:TP→TP→Option A1O) (c107:TP→TF→TF→TP→Option d5) (c108:TF→Option A1h)
noncomputable def B28 (x0:TP) (x1:TF) (x2:TF):Option R28:=(c83 x0 ([x1,x2]:List TF)).bind fun r1=>(if r1≠0 then(some (([]:List TP),([]:List TP),r1))else(if(x2.length:Int)=0 then(some (([]:List TP),([]:List TP),6))else(if 0≤wrap64 ((x2.length:Int)-1)then(if wrap64 ((x2.length:Int)-1)<(x2.length:Int)then((c106 x0 (C4 ([]:List TQ) x2 (wrap64 ((x2.length:Int)-1)))).bind fun r2=>(B3 ((!r2.2)) (some (([]:List TP),([]:List TP),6)) ((c107 x0 x1 x2 r2.1).bind fun r3=>((c108 r3.1).bind fun r4=>(B3 (r4) (some (([]:List TP),([]:List TP),4)) ((c108 r3.2).bind fun r5=>(B3 (r5) (some (([]:List TP),([]:List TP),4)) (some (r3.1,r3.2,0)))))))))else(none))else(none))))
theorem e28 (s:D28.ask.T):D28.ev E0 (D8z c83 c106 c107 c108) [] s=B28 c83 c106 c107 c108 s.1.1 s.1.2.1 s.1.2.2.1:=by kernel_rfl
end
noncomputable def C6b:Sk:=⟨[(0, .d (.li (.li tQ))),(1, .d (.li (.li tQ))),(12, .d (.it .i64)),(13, .d (.it .i64))],[]⟩
noncomputable def D1Q (gl0:TF→TF→Int→Int→Option t3):List (C9 t3):=[⟨4,C6b,fun s=>gl0 s.1.1 s.1.2.1 s.1.2.2.1 s.1.2.2.2.1⟩]
noncomputable def C4Z (c18:TP→TP→Option s8):List FE:=[C0t c18]
section
variable (gl0:TF→TF→Int→Int→Option t3) (c18:TP→TP→Option s8)
noncomputable def A8o (x0:TF) (x1:TF) (x12:Int) (x13:Int):Option t3:=if x13<x12 then(if 0≤x13 then(if x13<(x0.length:Int)then(if 0≤x13 then(if x13<(x1.length:Int)then((c18 (C4 ([]:List TQ) x0 x13) (C4 ([]:List TQ) x1 x13)).bind fun r1=>(B3 ((!r1)) (some false) (gl0 x0 x1 x12 (wrap64 (x13+1)))))else(none))else(none))else(none))else(none))else(some true)
theorem F5h (s0:C5 D29.ask.bl) (s:C6b.T):D29.po E0 (C4Z c18) (D1Q gl0) s0 0 (C6b.mk' s)=A8o gl0 c18 s.1.1 s.1.2.1 s.1.2.2.1 s.1.2.2.2.1:=by kernel_rfl
noncomputable def B29 (x0:TF) (x1:TF):Option t3:=if(x0.length:Int)≠(x1.length:Int)then(some false)else(gl0 x0 x1 (x0.length:Int) 0)
theorem e29 (s:D29.ask.T):D29.ev E0 (C4Z c18) (D1Q gl0) s=B29 gl0 s.1.1 s.1.2.1:=by kernel_rfl
end
noncomputable def C1t:Sk:=⟨[(2, .d (.li tQ)),(3, .f (.a (.ptr 3 0 []))),(7, .f (.a (.ref 7))),(13, .d (.li (.li tQ))),(14, .d (.it .i64)),(15, .d (.it .i64))],[(3, .cell (.ag (.li tQ)) true),(7, .own (.li tQ) true)]⟩
noncomputable def C3R (gl0:TP→TF→Int→Int→TP→TF→Option A0T):List (C9 A0T):=[⟨3,C1t,fun s=>gl0 s.1.1 s.1.2.1 s.1.2.2.1 s.1.2.2.2.1 s.2.1 s.2.2.1⟩]
noncomputable def C7b (c122:TF→Option Y2) (c146:TP→TP→TP→Option A3z):List FE:=[B1A c122,B9e c146]
section
variable (gl0:TP→TF→Int→Int→TP→TF→Option A0T) (c122:TF→Option Y2) (c146:TP→TP→TP→Option A3z)
noncomputable def A7U (x2:TP) (x13:TF) (x14:Int) (x15:Int) (x3:TP) (x7:TF):Option A0T:=if x15<x14 then(if 0≤x15 then(if x15<(x13.length:Int)then((c146 x3 (C4 ([]:List TQ) x13 x15) x2).bind fun r1=>(if 0≤x15 then(if x15<(x7.length:Int)then(gl0 x2 x13 x14 (wrap64 (x15+1)) x3 (x7.set (x15:Int).toNat r1))else(none))else(none)))else(none))else(none))else((c122 x7).bind fun r2=>(some r2))
theorem F3V (s0:C5 B0T.ask.bl) (s:C1t.T):B0T.po E0 (C7b c122 c146) (C3R gl0) s0 0 (C1t.mk' s)=A7U gl0 c122 c146 s.1.1 s.1.2.1 s.1.2.2.1 s.1.2.2.2.1 s.2.1 s.2.2.1:=by kernel_rfl
noncomputable def B5m (x0:TP) (x1:TF) (x2:TP):Option A0T:=if 0≤(x1.length:Int)then(if(x1.length:Int)≤(x1.length:Int)then(if((x1.length:Int):Int).toNat≤11728124029610 then(gl0 x2 x1 (x1.length:Int) 0 x0 (List.replicate ((x1.length:Int):Int).toNat ([]:List TQ)))else(none))else(none))else(none)
theorem F8F (s:B0T.ask.T):B0T.ev E0 (C7b c122 c146) (C3R gl0) s=B5m gl0 s.1.1 s.1.2.1 s.1.2.2.1:=by kernel_rfl
end
noncomputable def D3U (c106:TP→TP→Option A1O) (c131:TP→TF→TP→Option A0T):List FE:=[D1H c106,C2O c131]
section
variable (c106:TP→TP→Option A1O) (c131:TP→TF→TP→Option A0T)
noncomputable def C3F (x0:TP) (x1:TF):Option B1N:=if(x1.length:Int)=0 then(some (([]:List TP),true))else(if 0≤wrap64 ((x1.length:Int)-1)then(if wrap64 ((x1.length:Int)-1)<(x1.length:Int)then((c106 x0 (C4 ([]:List TQ) x1 (wrap64 ((x1.length:Int)-1)))).bind fun r1=>(B3 ((!r1.2)) (some (([]:List TP),false)) ((c131 x0 x1 r1.1).bind fun r2=>(some (r2,true)))))else(none))else(none))
theorem F5v (s:B6V.ask.T):B6V.ev E0 (D3U c106 c131) [] s=C3F c106 c131 s.1.1 s.1.2.1:=by kernel_rfl
end
noncomputable def C3B (x0:TF):Option B0c:=some x0
theorem F2z (s:B8K.ask.T):B8K.ev E0 [] [] s=C3B s.1.1:=by kernel_rfl
noncomputable def D6Y (c108:TF→Option A1h) (c112:TF→Option B0c):List FE:=[B3j c108,D5o c112]
section
variable (c108:TF→Option A1h) (c112:TF→Option B0c)
noncomputable def C3E (x0:(TF×Unit)):Option B2x:=(c112 x0.1).bind fun r1=>((c108 r1).bind fun r2=>(B3 (r2) (some (([]:List TP),4)) (some (r1,0))))
theorem E0f (s:C0Q.ask.T):C0Q.ev E0 (D6Y c108 c112) [] s=C3E c108 c112 s.1.1:=by kernel_rfl
end
noncomputable def D1O:Sk:=⟨[(3, .f (.a (.ptr 3 0 []))),(9, .f (.a (.ptr 9 0 [])))],[(3, .cell (.ag (.li tQ)) true),(9, .cell (.ar (.pr (.li (.li tQ)) (.li (.li tQ)))) true)]⟩
noncomputable def C2Y (gl0:TP→(TF×TF)→Option R31):List (C9 R31):=[⟨5,D1O,fun s=>gl0 s.2.1 s.2.2.1⟩]
noncomputable def D0V (c83:TP→(List TF)→Option U2) (c86:(List Int)→Option d9) (c107:TP→TF→TF→TP→Option d5) (c110:TP→TF→Option B1N) (c111Gcd:(TF×Unit)→Option B2x):List FE:=[A9n c83,B4f c86,C1a c107,D4k c110,D1q c111Gcd]
section
variable (gl0:TP→(TF×TF)→Option R31) (c83:TP→(List TF)→Option U2) (c86:(List Int)→Option d9) (c107:TP→TF→TF→TP→Option d5) (c110:TP→TF→Option B1N) (c111Gcd:(TF×Unit)→Option B2x)
noncomputable def C3N (x3:TP) (x9:(TF×TF)):Option R31:=if(x9.2.length:Int)>0 then((c110 x3 x9.2).bind fun r1=>(B3 ((!r1.2)) (some (([]:List TP),6)) ((c86 ([1]:List Int)).bind fun r2=>((c107 x3 x9.1 r1.1 r2).bind fun r3=>(gl0 x3 (r1.1,r3.2))))))else((c110 x3 x9.1).bind fun r4=>(B3 ((!r4.2)) (some (([]:List TP),6)) ((c111Gcd (r4.1,())).bind fun r5=>(some (r5.1,r5.2)))))
theorem E8I (s0:C5 D31.ask.bl) (s:D1O.T):D31.po E0 (D0V c83 c86 c107 c110 c111Gcd) (C2Y gl0) s0 0 (D1O.mk' s)=C3N gl0 c86 c107 c110 c111Gcd s.2.1 s.2.2.1:=by kernel_rfl
noncomputable def B31 (x0:TP) (x1:TF) (x2:TF):Option R31:=(c83 x0 ([x1,x2]:List TF)).bind fun r1=>(if r1≠0 then(some (([]:List TP),r1))else(gl0 x0 (x1,x2)))
theorem e31 (s:D31.ask.T):D31.ev E0 (D0V c83 c86 c107 c110 c111Gcd) (C2Y gl0) s=B31 gl0 c83 s.1.1 s.1.2.1 s.1.2.2.1:=by kernel_rfl
end
noncomputable def B5I (x0:TF) (x1:Int):Option B1i:=if x1<(x0.length:Int)then(if 0≤x1 then(if x1<(x0.length:Int)then(some (C4 ([]:List TQ) x0 x1))else(none))else(none))else(some ([]:List TQ))
theorem F8e (s:C0j.ask.T):C0j.ev E0 [] [] s=B5I s.1.1 s.1.2.1:=by kernel_rfl
noncomputable def C3O:Sk:=⟨[(0, .d (.li (.li tQ))),(1, .d (.li (.li tQ))),(5, .f (.a (.ref 5))),(14, .d (.it .i64)),(15, .d (.it .i64))],[(5, .own (.li tQ) true)]⟩
noncomputable def D0O (gl0:TF→TF→Int→Int→TF→Option A3H):List (C9 A3H):=[⟨3,C3O,fun s=>gl0 s.1.1 s.1.2.1 s.1.2.2.1 s.1.2.2.2.1 s.2.1⟩]
noncomputable def C4C (c90:TP→TP→Option d7) (c122:TF→Option Y2) (c174:TF→Int→Option B1i):List FE:=[B5H c90,B1A c122,D2r c174]
section
variable (gl0:TF→TF→Int→Int→TF→Option A3H) (c90:TP→TP→Option d7) (c122:TF→Option Y2) (c174:TF→Int→Option B1i)
noncomputable def A7S (x0:TF) (x1:TF) (x14:Int) (x15:Int) (x5:TF):Option A3H:=if x15<x14 then((c174 x0 x15).bind fun r1=>((c174 x1 x15).bind fun r2=>((c90 r1 r2).bind fun r3=>(if 0≤x15 then(if x15<(x5.length:Int)then(gl0 x0 x1 x14 (wrap64 (x15+1)) (x5.set (x15:Int).toNat r3))else(none))else(none)))))else((c122 x5).bind fun r4=>(some r4))
theorem F8I (s0:C5 B2n.ask.bl) (s:C3O.T):B2n.po E0 (C4C c90 c122 c174) (D0O gl0) s0 0 (C3O.mk' s)=A7S gl0 c90 c122 c174 s.1.1 s.1.2.1 s.1.2.2.1 s.1.2.2.2.1 s.2.1:=by kernel_rfl
noncomputable def B4O (x0:TF) (x1:TF):Option A3H:=if 0≤mx (x0.length:Int) (x1.length:Int)then(if mx (x0.length:Int) (x1.length:Int)≤mx (x0.length:Int) (x1.length:Int)then(if(mx (x0.length:Int) (x1.length:Int):Int).toNat≤11728124029610 then(gl0 x0 x1 ((List.replicate (mx (x0.length:Int) (x1.length:Int):Int).toNat ([]:List TQ)).length:Int) 0 (List.replicate (mx (x0.length:Int) (x1.length:Int):Int).toNat ([]:List TQ)))else(none))else(none))else(none)
theorem F7B (s:B2n.ask.T):B2n.ev E0 (C4C c90 c122 c174) (D0O gl0) s=B4O gl0 s.1.1 s.1.2.1:=by kernel_rfl
end
noncomputable def C9D:Sk:=⟨[(2, .d (.li (.li tQ))),(3, .f (.a (.ptr 3 0 []))),(7, .f (.a (.ref 7))),(28, .d (.li (.li tQ))),(29, .d (.it .i64)),(30, .d (.it .i64))],[(3, .cell (.ag (.li tQ)) true),(7, .own (.li tQ) true)]⟩
noncomputable def D0u:Sk:=⟨[(2, .d (.li (.li tQ))),(3, .f (.a (.ptr 3 0 []))),(7, .f (.a (.ref 7))),(8, .d (.it .i64)),(9, .d (.li tQ)),(28, .d (.li (.li tQ))),(29, .d (.it .i64)),(30, .d (.it .i64)),(35, .d (.li (.li tQ))),(36, .d (.it .i64)),(37, .d (.it .i64))],[(3, .cell (.ag (.li tQ)) true),(7, .own (.li tQ) true)]⟩
noncomputable def D1N:Sk:=⟨[(3, .f (.a (.ptr 3 0 []))),(7, .f (.a (.ref 7))),(60, .d (.it .i64)),(61, .d (.it .i64))],[(3, .cell (.ag (.li tQ)) true),(7, .own (.li tQ) true)]⟩
noncomputable def B4m (gl0:TF→TF→Int→Int→TP→TF→Option X7) (gl1:TF→Int→TP→TF→Int→Int→TF→Int→Int→TP→TF→Option X7) (gl2:Int→Int→TP→TF→Option X7):List (C9 X7):=[⟨5,C9D,fun s=>gl0 s.1.1 s.1.2.1 s.1.2.2.1 s.1.2.2.2.1 s.2.1 s.2.2.1⟩,⟨8,D0u,fun s=>gl1 s.1.1 s.1.2.1 s.1.2.2.1 s.1.2.2.2.1 s.1.2.2.2.2.1 s.1.2.2.2.2.2.1 s.1.2.2.2.2.2.2.1 s.1.2.2.2.2.2.2.2.1 s.1.2.2.2.2.2.2.2.2.1 s.2.1 s.2.2.1⟩,⟨14,D1N,fun s=>gl2 s.1.1 s.1.2.1 s.2.1 s.2.2.1⟩]
noncomputable def B3l (c90:TP→TP→Option d7) (c91:TP→TP→Option P6) (c122:TF→Option Y2) (c165:TP→TP→Option A4A):List FE:=[B5H c90,B3r c91,B1A c122,B7t c165]
section
variable (gl0:TF→TF→Int→Int→TP→TF→Option X7) (gl1:TF→Int→TP→TF→Int→Int→TF→Int→Int→TP→TF→Option X7) (gl2:Int→Int→TP→TF→Option X7) (c90:TP→TP→Option d7) (c91:TP→TP→Option P6) (c122:TF→Option Y2) (c165:TP→TP→Option A4A)
noncomputable def A7X (x2:TF) (x28:TF) (x29:Int) (x30:Int) (x3:TP) (x7:TF):Option X7:=if x30<x29 then(if 0≤x30 then(if x30<(x28.length:Int)then(gl1 x2 x30 (C4 ([]:List TQ) x28 x30) x28 x29 x30 x2 (x2.length:Int) 0 x3 x7)else(none))else(none))else(gl2 (x7.length:Int) 0 x3 x7)
theorem F0I (s0:C5 A4E.ask.bl) (s:C9D.T):A4E.po E0 (B3l c90 c91 c122 c165) (B4m gl0 gl1 gl2) s0 0 (C9D.mk' s)=A7X gl1 gl2 s.1.1 s.1.2.1 s.1.2.2.1 s.1.2.2.2.1 s.2.1 s.2.2.1:=by kernel_rfl
noncomputable def A8l (x2:TF) (x8:Int) (x9:TP) (x28:TF) (x29:Int) (x30:Int) (x35:TF) (x36:Int) (x37:Int) (x3:TP) (x7:TF):Option X7:=if x37<x36 then(if 0≤x37 then(if x37<(x35.length:Int)then(if 0≤wrap64 (x8+x37)then(if wrap64 (x8+x37)<(x7.length:Int)then((c91 x9 (C4 ([]:List TQ) x35 x37)).bind fun r1=>((c90 (C4 ([]:List TQ) x7 (wrap64 (x8+x37))) r1).bind fun r2=>(if 0≤wrap64 (x8+x37)then(if wrap64 (x8+x37)<(x7.length:Int)then(gl1 x2 x8 x9 x28 x29 x30 x35 x36 (wrap64 (x37+1)) x3 (x7.set (wrap64 (x8+x37):Int).toNat r2))else(none))else(none))))else(none))else(none))else(none))else(none))else(gl0 x2 x28 x29 (wrap64 (x30+1)) x3 x7)
theorem E6Y (s0:C5 A4E.ask.bl) (s:D0u.T):A4E.po E0 (B3l c90 c91 c122 c165) (B4m gl0 gl1 gl2) s0 1 (D0u.mk' s)=A8l gl0 gl1 c90 c91 s.1.1 s.1.2.1 s.1.2.2.1 s.1.2.2.2.1 s.1.2.2.2.2.1 s.1.2.2.2.2.2.1 s.1.2.2.2.2.2.2.1 s.1.2.2.2.2.2.2.2.1 s.1.2.2.2.2.2.2.2.2.1 s.2.1 s.2.2.1:=by kernel_rfl
noncomputable def A7P (x60:Int) (x61:Int) (x3:TP) (x7:TF):Option X7:=if x61<x60 then(if 0≤x61 then(if x61<(x7.length:Int)then((c165 x3 (C4 ([]:List TQ) x7 x61)).bind fun r1=>(if 0≤x61 then(if x61<(x7.length:Int)then(gl2 x60 (wrap64 (x61+1)) x3 (x7.set (x61:Int).toNat r1))else(none))else(none)))else(none))else(none))else((c122 x7).bind fun r2=>(some r2))
theorem F4k (s0:C5 A4E.ask.bl) (s:D1N.T):A4E.po E0 (B3l c90 c91 c122 c165) (B4m gl0 gl1 gl2) s0 2 (D1N.mk' s)=A7P gl2 c122 c165 s.1.1 s.1.2.1 s.2.1 s.2.2.1:=by kernel_rfl
noncomputable def B5F (x0:TP) (x1:TF) (x2:TF):Option X7:=if(x1.length:Int)=0 then(some ([]:List TP))else(if(x2.length:Int)=0 then(some ([]:List TP))else(if 0≤wrap64 ((wrap64 ((x1.length:Int)+(x2.length:Int)))-1)then(if wrap64 ((wrap64 ((x1.length:Int)+(x2.length:Int)))-1)≤wrap64 ((wrap64 ((x1.length:Int)+(x2.length:Int)))-1)then(if(wrap64 ((wrap64 ((x1.length:Int)+(x2.length:Int)))-1):Int).toNat≤11728124029610 then(gl0 x2 x1 (x1.length:Int) 0 x0 (List.replicate (wrap64 ((wrap64 ((x1.length:Int)+(x2.length:Int)))-1):Int).toNat ([]:List TQ)))else(none))else(none))else(none)))
theorem E8E (s:A4E.ask.T):A4E.ev E0 (B3l c90 c91 c122 c165) (B4m gl0 gl1 gl2) s=B5F gl0 s.1.1 s.1.2.1 s.1.2.2.1:=by kernel_rfl
end
noncomputable def C5v:Sk:=⟨[(1, .pv (.li (.li tQ))),(2, .pv (.ag (.li tQ))),(4, .d (.li (.li tQ))),(5, .d (.li (.li tQ))),(6, .d (.it .i64))],[]⟩
noncomputable def C9w (gl0:TF→TP→TF→TF→Int→Option A2L):List (C9 A2L):=[⟨4,C5v,fun s=>gl0 s.1.1 s.1.2.1 s.1.2.2.1 s.1.2.2.2.1 s.1.2.2.2.2.1⟩]
noncomputable def C2n (c86:(List Int)→Option d9) (c122:TF→Option Y2) (c126:TF→TF→Option A3H) (c127:TP→TF→TF→Option X7):List FE:=[B4f c86,B1A c122,D3C c126,D6x c127]
section
variable (gl0:TF→TP→TF→TF→Int→Option A2L) (c86:(List Int)→Option d9) (c122:TF→Option Y2) (c126:TF→TF→Option A3H) (c127:TP→TF→TF→Option X7)
noncomputable def A7a (x1:TF) (x2:TP) (x4:TF) (x5:TF) (x6:Int):Option A2L:=if x6≥0 then((c127 x2 x4 x5).bind fun r1=>(if 0≤x6 then(if x6<(x1.length:Int)then((c122 ([C4 ([]:List TQ) x1 x6]:List TP)).bind fun r2=>((c126 r1 r2).bind fun r3=>(gl0 x1 x2 r3 x5 (wrap64 (x6-1)))))else(none))else(none)))else(some x4)
theorem E2a (s0:C5 B0f.ask.bl) (s:C5v.T):B0f.po E0 (C2n c86 c122 c126 c127) (C9w gl0) s0 0 (C5v.mk' s)=A7a gl0 c122 c126 c127 s.1.1 s.1.2.1 s.1.2.2.1 s.1.2.2.2.1 s.1.2.2.2.2.1:=by kernel_rfl
noncomputable def B4N (x0:TP) (x1:TF) (x2:TP):Option A2L:=(c86 ([1]:List Int)).bind fun r1=>((c122 ([x0,r1]:List TP)).bind fun r2=>(gl0 x1 x2 ([]:List TP) r2 (wrap64 ((x1.length:Int)-1))))
theorem F7d (s:B0f.ask.T):B0f.ev E0 (C2n c86 c122 c126 c127) (C9w gl0) s=B4N gl0 c86 c122 s.1.1 s.1.2.1 s.1.2.2.1:=by kernel_rfl
end
noncomputable def D1j (c108:TF→Option A1h) (c125:TP→TF→TP→Option A2L):List FE:=[B3j c108,D8f c125]
section
variable (c108:TF→Option A1h) (c125:TP→TF→TP→Option A2L)
noncomputable def B6E (x0:(TP×TF×TP×Unit)):Option B2h:=(c125 x0.1 x0.2.1 x0.2.2.1).bind fun r1=>((c108 r1).bind fun r2=>(B3 (r2) (some (([]:List TP),4)) (some (r1,0))))
theorem E6e (s:B6t.ask.T):B6t.ev E0 (D1j c108 c125) [] s=B6E c108 c125 s.1.1:=by kernel_rfl
end
noncomputable def D6m (c83:TP→(List TF)→Option U2) (c111Shift:(TP×TF×TP×Unit)→Option B2h) (c124:TP→TP→Option A1m):List FE:=[A9n c83,D5D c111Shift,B3o c124]
section
variable (c83:TP→(List TF)→Option U2) (c111Shift:(TP×TF×TP×Unit)→Option B2h) (c124:TP→TP→Option A1m)
noncomputable def B50 (x0:TP) (x1:TF) (x2:TP):Option R50:=(c83 x0 ([x1]:List TF)).bind fun r1=>(if r1≠0 then(some (([]:List TP),r1))else((c124 x0 x2).bind fun r2=>(if r2≠0 then(some (([]:List TP),r2))else((c111Shift (x2,x1,x0,())).bind fun r3=>(some (r3.1,r3.2))))))
theorem e50 (s:D50.ask.T):D50.ev E0 (D6m c83 c111Shift c124) [] s=B50 c83 c111Shift c124 s.1.1 s.1.2.1 s.1.2.2.1:=by kernel_rfl
end
noncomputable def D3j (c17:TP→TF→Option R6) (c18:TP→TP→Option s8) (c22:(List Int)→Option R22) (c28:TP→TF→TF→Option R28) (c29:TF→TF→Option t3) (c31:TP→TF→TF→Option R31) (c50:TP→TF→TP→Option R50):List FE:=[D8A c17,C0t c18,C8z c22,D5y c28,C0i c29,D1Y c31,D0o c50]
section
variable (c17:TP→TF→Option R6) (c18:TP→TP→Option s8) (c22:(List Int)→Option R22) (c28:TP→TF→TF→Option R28) (c29:TF→TF→Option t3) (c31:TP→TF→TF→Option R31) (c50:TP→TF→TP→Option R50)
noncomputable def B16:Option R16:=(c22 ([(-2),0,1]:List Int)).bind fun r1=>((c22 ([0,1]:List Int)).bind fun r2=>((c22 ([1]:List Int)).bind fun r3=>((c22 ([(-2)]:List Int)).bind fun r4=>((c22 ([0,(-1)]:List Int)).bind fun r5=>((c28 r1 ([r4,([]:List TQ),r3]:List TP) ([r5,r3]:List TP)).bind fun r6=>((c22 ([(-2)]:List Int)).bind fun r7=>((c22 ([2]:List Int)).bind fun r8=>((c22 ([0,(-2)]:List Int)).bind fun r9=>((c31 r1 ([r7,([]:List TQ),r3]:List TP) ([r8,r9,r3]:List TP)).bind fun r10=>((c22 ([0,(-1)]:List Int)).bind fun r11=>((c17 r1 ([r11,r3]:List TP)).bind fun r12=>((c17 r1 ([r2,([]:List TQ),r3]:List TP)).bind fun r13=>((c17 r1 ([r3,r2]:List TP)).bind fun r14=>((c50 r1 ([([]:List TQ),([]:List TQ),r3]:List TP) r2).bind fun r15=>(if wrap64 ((wrap64 ((wrap64 ((wrap64 ((wrap64 (r6.2.2+r10.2))+r12.2))+r13.2))+r14.2))+r15.2)≠0 then(some false)else(if(r6.2.1.length:Int)>0 then(some false)else((c29 r6.1 ([r2,r3]:List TP)).bind fun r16=>(B3 ((!r16)) (some false) ((c22 ([0,(-1)]:List Int)).bind fun r17=>((c29 r10.1 ([r17,r3]:List TP)).bind fun r18=>(B3 ((!r18)) (some false) ((c22 ([(-2),0,1]:List Int)).bind fun r19=>((c18 r12.1 r19).bind fun r20=>(B3 (r20) ((c22 ([(-2),0,0,0,1]:List Int)).bind fun r21=>((c18 r13.1 r21).bind fun r22=>(B3 (r22) ((c22 ([1,0,(-2)]:List Int)).bind fun r23=>((c18 r14.1 r23).bind fun r24=>(B3 (r24) ((c22 ([2]:List Int)).bind fun r25=>((c22 ([0,2]:List Int)).bind fun r26=>((c29 r15.1 ([r25,r26,r3]:List TP)).bind fun r27=>(some r27)))) (some false)))) (some false)))) (some false)))))))))))))))))))))))))
theorem e16 (s:D16.ask.T):D16.ev E0 (D3j c17 c18 c22 c28 c29 c31 c50) [] s=B16 c17 c18 c22 c28 c29 c31 c50:=by kernel_rfl
end
noncomputable def D1T:Sk:=⟨[(5, .d (.li (.it .i64))),(6, .d (.it .i64)),(7, .d (.it .i64))],[]⟩
noncomputable def D0L (gl0:(List Int)→Int→Int→Option R34):List (C9 R34):=[⟨2,D1T,fun s=>gl0 s.1.1 s.1.2.1 s.1.2.2.1⟩]
section
variable (gl0:(List Int)→Int→Int→Option R34)
noncomputable def A8s (x5:(List Int)) (x6:Int) (x7:Int):Option R34:=if x7<x6 then(if 0≤x7 then(if x7<(x5.length:Int)then(if rd x5 x7≠0 then(some (rd x5 x7))else(gl0 x5 x6 (wrap64 (x7+1))))else(none))else(none))else(some 0)
theorem F3R (s0:C5 D34.ask.bl) (s:D1T.T):D34.po E0 [] (D0L gl0) s0 0 (D1T.mk' s)=A8s gl0 s.1.1 s.1.2.1 s.1.2.2.1:=by kernel_rfl
noncomputable def B34 (x0:(List Int)):Option R34:=gl0 x0 (x0.length:Int) 0
theorem e34 (s:D34.ask.T):D34.ev E0 [] (D0L gl0) s=B34 gl0 s.1.1:=by kernel_rfl
end
noncomputable def C7F:Sk:=⟨[(6, .d (.li tQ)),(7, .d (.it .i64)),(8, .d (.it .i64))],[]⟩
noncomputable def C1s (gl0:TP→Int→Int→Option A0X):List (C9 A0X):=[⟨2,C7F,fun s=>gl0 s.1.1 s.1.2.1 s.1.2.2.1⟩]
noncomputable def C5e (c135:TQ→Option A6F):List FE:=[C2U c135]
section
variable (gl0:TP→Int→Int→Option A0X) (c135:TQ→Option A6F)
noncomputable def A7d (x6:TP) (x7:Int) (x8:Int):Option A0X:=if x8<x7 then(if 0≤x8 then(if x8<(x6.length:Int)then((c135 (C4 ((false,(⟨#[]⟩:ByteArray)),(⟨#[]⟩:ByteArray)) x6 x8)).bind fun r1=>(if r1≠0 then(some r1)else(gl0 x6 x7 (wrap64 (x8+1)))))else(none))else(none))else(some 0)
theorem E5i (s0:C5 B3H.ask.bl) (s:C7F.T):B3H.po E0 (C5e c135) (C1s gl0) s0 0 (C7F.mk' s)=A7d gl0 c135 s.1.1 s.1.2.1 s.1.2.2.1:=by kernel_rfl
noncomputable def B5a (x0:TP):Option A0X:=gl0 x0 (x0.length:Int) 0
theorem F1E (s:B3H.ask.T):B3H.ev E0 (C5e c135) (C1s gl0) s=B5a gl0 s.1.1:=by kernel_rfl
end
noncomputable def C1w:Sk:=⟨[(9, .d (.li (.li tQ))),(10, .d (.it .i64)),(11, .d (.it .i64))],[]⟩
noncomputable def D1C (gl0:TF→Int→Int→Option R44):List (C9 R44):=[⟨4,C1w,fun s=>gl0 s.1.1 s.1.2.1 s.1.2.2.1⟩]
noncomputable def D1B (c117:TP→Option A0X):List FE:=[C3r c117]
section
variable (gl0:TF→Int→Int→Option R44) (c117:TP→Option A0X)
noncomputable def A9h (x9:TF) (x10:Int) (x11:Int):Option R44:=if x11<x10 then(if 0≤x11 then(if x11<(x9.length:Int)then((c117 (C4 ([]:List TQ) x9 x11)).bind fun r1=>(if r1≠0 then(some r1)else(gl0 x9 x10 (wrap64 (x11+1)))))else(none))else(none))else(some 0)
theorem F2q (s0:C5 D44.ask.bl) (s:C1w.T):D44.po E0 (D1B c117) (D1C gl0) s0 0 (C1w.mk' s)=A9h gl0 c117 s.1.1 s.1.2.1 s.1.2.2.1:=by kernel_rfl
noncomputable def B44 (x0:TF):Option R44:=if(x0.length:Int)>65 then(some 4)else(gl0 x0 (x0.length:Int) 0)
theorem e44 (s:D44.ask.T):D44.ev E0 (D1B c117) (D1C gl0) s=B44 gl0 s.1.1:=by kernel_rfl
end
noncomputable def A5K (x0:TI):Option A6e:=some (x0,(⟨#[1]⟩:ByteArray))
theorem E3T (s:B7b.ask.T):B7b.ev E0 [] [] s=A5K s.1.1:=by kernel_rfl
noncomputable def D0j (x0:Bool) (x1:ByteArray):Option A3u:=B3 (x0) (some ((!(E6 x1 (⟨#[]⟩:ByteArray))),x1)) (some (false,x1))
theorem E0j (s:B6R.ask.T):B6R.ev E0 [] [] s=D0j s.1.1 s.1.2.1:=by kernel_rfl
noncomputable def C8I:Sk:=⟨[(5, .f (.a (.ref 5))),(6, .f (.a (.ref 6))),(7, .f (.a (.ref 7))),(8, .d (.it .u64)),(9, .d (.it .i64))],[(5, .own (.it .u64) true),(6, .own (.it .u64) true),(7, .own (.it .u64) true)]⟩
noncomputable def C6a (gl0:Int→Int→(List Int)→(List Int)→(List Int)→Option A2Y):List (C9 A2Y):=[⟨5,C8I,fun s=>gl0 s.1.1 s.1.2.1 s.2.1 s.2.2.1 s.2.2.2.1⟩]
noncomputable def C9o (c221:(List Int)→Option S0) (c229:ByteArray→Option W4):List FE:=[B0N c221,B4k c229]
section
variable (gl0:Int→Int→(List Int)→(List Int)→(List Int)→Option A2Y) (c221:(List Int)→Option S0) (c229:ByteArray→Option W4)
noncomputable def C6z (x8:Int) (x9:Int) (x5:(List Int)) (x6:(List Int)) (x7:(List Int)):Option A2Y:=if x9<(x5.length:Int)then(if x9<(x5.length:Int)then(if 0≤x9 then(if x9<(x5.length:Int)then(if x9<(x6.length:Int)then(if 0≤x9 then(if x9<(x6.length:Int)then(if(x7.length+1)*8≤140737488355328 then(if(0:Int)≤32 then(gl0 ((IntKind.u64.wrap ((IntKind.u64.wrap (x8+(rd x5 x9)))+(rd x6 x9)))/4294967296) (wrap64 (x9+1)) x5 x6 (x7++([Go.bits .and .u64 (IntKind.u64.wrap ((IntKind.u64.wrap (x8+(rd x5 x9)))+(rd x6 x9))) 4294967295]:List Int)))else(none))else(none))else(none))else(none))else(if(x7.length+1)*8≤140737488355328 then(if(0:Int)≤32 then(gl0 ((IntKind.u64.wrap (x8+(rd x5 x9)))/4294967296) (wrap64 (x9+1)) x5 x6 (x7++([Go.bits .and .u64 (IntKind.u64.wrap (x8+(rd x5 x9))) 4294967295]:List Int)))else(none))else(none)))else(none))else(none))else(if x9<(x6.length:Int)then(if 0≤x9 then(if x9<(x6.length:Int)then(if(x7.length+1)*8≤140737488355328 then(if(0:Int)≤32 then(gl0 ((IntKind.u64.wrap (x8+(rd x6 x9)))/4294967296) (wrap64 (x9+1)) x5 x6 (x7++([Go.bits .and .u64 (IntKind.u64.wrap (x8+(rd x6 x9))) 4294967295]:List Int)))else(none))else(none))else(none))else(none))else(if(x7.length+1)*8≤140737488355328 then(if(0:Int)≤32 then(gl0 (x8/4294967296) (wrap64 (x9+1)) x5 x6 (x7++([Go.bits .and .u64 x8 4294967295]:List Int)))else(none))else(none))))else(if x9<(x6.length:Int)then(if x9<(x5.length:Int)then(if 0≤x9 then(if x9<(x5.length:Int)then(if x9<(x6.length:Int)then(if 0≤x9 then(if x9<(x6.length:Int)then(if(x7.length+1)*8≤140737488355328 then(if(0:Int)≤32 then(gl0 ((IntKind.u64.wrap ((IntKind.u64.wrap (x8+(rd x5 x9)))+(rd x6 x9)))/4294967296) (wrap64 (x9+1)) x5 x6 (x7++([Go.bits .and .u64 (IntKind.u64.wrap ((IntKind.u64.wrap (x8+(rd x5 x9)))+(rd x6 x9))) 4294967295]:List Int)))else(none))else(none))else(none))else(none))else(if(x7.length+1)*8≤140737488355328 then(if(0:Int)≤32 then(gl0 ((IntKind.u64.wrap (x8+(rd x5 x9)))/4294967296) (wrap64 (x9+1)) x5 x6 (x7++([Go.bits .and .u64 (IntKind.u64.wrap (x8+(rd x5 x9))) 4294967295]:List Int)))else(none))else(none)))else(none))else(none))else(if x9<(x6.length:Int)then(if 0≤x9 then(if x9<(x6.length:Int)then(if(x7.length+1)*8≤140737488355328 then(if(0:Int)≤32 then(gl0 ((IntKind.u64.wrap (x8+(rd x6 x9)))/4294967296) (wrap64 (x9+1)) x5 x6 (x7++([Go.bits .and .u64 (IntKind.u64.wrap (x8+(rd x6 x9))) 4294967295]:List Int)))else(none))else(none))else(none))else(none))else(if(x7.length+1)*8≤140737488355328 then(if(0:Int)≤32 then(gl0 (x8/4294967296) (wrap64 (x9+1)) x5 x6 (x7++([Go.bits .and .u64 x8 4294967295]:List Int)))else(none))else(none))))else(if x8>0 then(if x9<(x5.length:Int)then(if 0≤x9 then(if x9<(x5.length:Int)then(if x9<(x6.length:Int)then(if 0≤x9 then(if x9<(x6.length:Int)then(if(x7.length+1)*8≤140737488355328 then(if(0:Int)≤32 then(gl0 ((IntKind.u64.wrap ((IntKind.u64.wrap (x8+(rd x5 x9)))+(rd x6 x9)))/4294967296) (wrap64 (x9+1)) x5 x6 (x7++([Go.bits .and .u64 (IntKind.u64.wrap ((IntKind.u64.wrap (x8+(rd x5 x9)))+(rd x6 x9))) 4294967295]:List Int)))else(none))else(none))else(none))else(none))else(if(x7.length+1)*8≤140737488355328 then(if(0:Int)≤32 then(gl0 ((IntKind.u64.wrap (x8+(rd x5 x9)))/4294967296) (wrap64 (x9+1)) x5 x6 (x7++([Go.bits .and .u64 (IntKind.u64.wrap (x8+(rd x5 x9))) 4294967295]:List Int)))else(none))else(none)))else(none))else(none))else(if x9<(x6.length:Int)then(if 0≤x9 then(if x9<(x6.length:Int)then(if(x7.length+1)*8≤140737488355328 then(if(0:Int)≤32 then(gl0 ((IntKind.u64.wrap (x8+(rd x6 x9)))/4294967296) (wrap64 (x9+1)) x5 x6 (x7++([Go.bits .and .u64 (IntKind.u64.wrap (x8+(rd x6 x9))) 4294967295]:List Int)))else(none))else(none))else(none))else(none))else(if(x7.length+1)*8≤140737488355328 then(if(0:Int)≤32 then(gl0 (x8/4294967296) (wrap64 (x9+1)) x5 x6 (x7++([Go.bits .and .u64 x8 4294967295]:List Int)))else(none))else(none))))else((c221 x7).bind fun r1=>(some r1))))
theorem E8v (s0:C5 B2g.ask.bl) (s:C8I.T):B2g.po E0 (C9o c221 c229) (C6a gl0) s0 0 (C8I.mk' s)=C6z gl0 c221 s.1.1 s.1.2.1 s.2.1 s.2.2.1 s.2.2.2.1:=by kernel_rfl
noncomputable def C5W (x0:ByteArray) (x1:ByteArray):Option A2Y:=(c229 x0).bind fun r1=>((c229 x1).bind fun r2=>(gl0 0 0 r1 r2 ([]:List Int)))
theorem F0T (s:B2g.ask.T):B2g.ev E0 (C9o c221 c229) (C6a gl0) s=C5W gl0 c229 s.1.1 s.1.2.1:=by kernel_rfl
end
noncomputable def D0B (x0:ByteArray) (x1:ByteArray):Option A7B:=if(x0.size:Int)<(x1.size:Int)then(some (-1))else(if(x0.size:Int)=(x1.size:Int)then(B3 ((Op.bytesLess x0.toList x1.toList)) (some (-1)) (B3 ((E6 x0 x1)) (some 0) (some 1)))else(B3 ((E6 x0 x1)) (some 0) (some 1)))
theorem E2C (s:B7e.ask.T):B7e.ev E0 [] [] s=D0B s.1.1 s.1.2.1:=by kernel_rfl
noncomputable def C2S:Sk:=⟨[(5, .f (.a (.ref 5))),(6, .f (.a (.ref 6))),(7, .d (.it .u64)),(8, .d (.it .i64))],[(5, .own (.it .u64) true),(6, .own (.it .u64) true)]⟩
noncomputable def C3d (gl0:Int→Int→(List Int)→(List Int)→Option A2S):List (C9 A2S):=[⟨6,C2S,fun s=>gl0 s.1.1 s.1.2.1 s.2.1 s.2.2.1⟩]
noncomputable def D1W (c200:ByteArray→ByteArray→Option A7B) (c221:(List Int)→Option S0) (c229:ByteArray→Option W4):List FE:=[C7j c200,B0N c221,B4k c229]
section
variable (gl0:Int→Int→(List Int)→(List Int)→Option A2S) (c200:ByteArray→ByteArray→Option A7B) (c221:(List Int)→Option S0) (c229:ByteArray→Option W4)
noncomputable def C8c (x7:Int) (x8:Int) (x5:(List Int)) (x6:(List Int)):Option A2S:=if x8<(x5.length:Int)then(if x8<(x6.length:Int)then(if 0≤x8 then(if x8<(x6.length:Int)then(if 0≤x8 then(if x8<(x5.length:Int)then(if rd x5 x8<IntKind.u64.wrap (x7+(rd x6 x8))then(if 0≤x8 then(if x8<(x5.length:Int)then(if 0≤x8 then(if x8<(x5.length:Int)then(if 0≤x8 then(if x8<((x5.set (x8:Int).toNat (IntKind.u64.wrap ((rd x5 x8)+4294967296))).length:Int)then(if 0≤x8 then(if x8<((x5.set (x8:Int).toNat (IntKind.u64.wrap ((rd x5 x8)+4294967296))).length:Int)then(gl0 1 (wrap64 (x8+1)) ((x5.set (x8:Int).toNat (IntKind.u64.wrap ((rd x5 x8)+4294967296))).set (x8:Int).toNat (IntKind.u64.wrap ((rd (x5.set (x8:Int).toNat (IntKind.u64.wrap ((rd x5 x8)+4294967296))) x8)-(IntKind.u64.wrap (x7+(rd x6 x8)))))) x6)else(none))else(none))else(none))else(none))else(none))else(none))else(none))else(none))else(if 0≤x8 then(if x8<(x5.length:Int)then(if 0≤x8 then(if x8<(x5.length:Int)then(gl0 0 (wrap64 (x8+1)) (x5.set (x8:Int).toNat (IntKind.u64.wrap ((rd x5 x8)-(IntKind.u64.wrap (x7+(rd x6 x8)))))) x6)else(none))else(none))else(none))else(none)))else(none))else(none))else(none))else(none))else(if 0≤x8 then(if x8<(x5.length:Int)then(if rd x5 x8<x7 then(if 0≤x8 then(if x8<(x5.length:Int)then(if 0≤x8 then(if x8<(x5.length:Int)then(if 0≤x8 then(if x8<((x5.set (x8:Int).toNat (IntKind.u64.wrap ((rd x5 x8)+4294967296))).length:Int)then(if 0≤x8 then(if x8<((x5.set (x8:Int).toNat (IntKind.u64.wrap ((rd x5 x8)+4294967296))).length:Int)then(gl0 1 (wrap64 (x8+1)) ((x5.set (x8:Int).toNat (IntKind.u64.wrap ((rd x5 x8)+4294967296))).set (x8:Int).toNat (IntKind.u64.wrap ((rd (x5.set (x8:Int).toNat (IntKind.u64.wrap ((rd x5 x8)+4294967296))) x8)-x7))) x6)else(none))else(none))else(none))else(none))else(none))else(none))else(none))else(none))else(if 0≤x8 then(if x8<(x5.length:Int)then(if 0≤x8 then(if x8<(x5.length:Int)then(gl0 0 (wrap64 (x8+1)) (x5.set (x8:Int).toNat (IntKind.u64.wrap ((rd x5 x8)-x7))) x6)else(none))else(none))else(none))else(none)))else(none))else(none)))else((c221 x5).bind fun r1=>(some r1))
theorem E4Q (s0:C5 B0w.ask.bl) (s:C2S.T):B0w.po E0 (D1W c200 c221 c229) (C3d gl0) s0 0 (C2S.mk' s)=C8c gl0 c221 s.1.1 s.1.2.1 s.2.1 s.2.2.1:=by kernel_rfl
noncomputable def D0e (x0:ByteArray) (x1:ByteArray):Option A2S:=(c200 x0 x1).bind fun r1=>(if r1<0 then(some (⟨#[]⟩:ByteArray))else((c229 x0).bind fun r2=>((c229 x1).bind fun r3=>(gl0 0 0 r2 r3))))
theorem E2g (s:B0w.ask.T):B0w.ev E0 (D1W c200 c221 c229) (C3d gl0) s=D0e gl0 c200 c229 s.1.1 s.1.2.1:=by kernel_rfl
end
noncomputable def D8H (c198:Bool→ByteArray→Option A3u) (c199:ByteArray→ByteArray→Option A2Y) (c200:ByteArray→ByteArray→Option A7B) (c201:ByteArray→ByteArray→Option A2S):List FE:=[B8I c198,D4R c199,C7j c200,D8j c201]
section
variable (c198:Bool→ByteArray→Option A3u) (c199:ByteArray→ByteArray→Option A2Y) (c200:ByteArray→ByteArray→Option A7B) (c201:ByteArray→ByteArray→Option A2S)
noncomputable def C7U (x0:TI) (x1:TI):Option B1n:=B3 ((x0.1==x1.1)) ((c199 x0.2 x1.2).bind fun r1=>((c198 x0.1 r1).bind fun r2=>(some (r2.1,r2.2)))) ((c200 x0.2 x1.2).bind fun r3=>(if r3≥0 then((c201 x0.2 x1.2).bind fun r4=>((c198 x0.1 r4).bind fun r5=>(some (r5.1,r5.2))))else((c201 x1.2 x0.2).bind fun r6=>((c198 x1.1 r6).bind fun r7=>(some (r7.1,r7.2))))))
theorem E3j (s:B7o.ask.T):B7o.ev E0 (D8H c198 c199 c200 c201) [] s=C7U c198 c199 c200 c201 s.1.1 s.1.2.1:=by kernel_rfl
end
noncomputable def C2i:Sk:=⟨[(5, .f (.a (.ref 5))),(6, .f (.a (.ref 6))),(7, .f (.a (.ref 7))),(8, .d (.it .i64))],[(5, .own (.it .u64) true),(6, .own (.it .u64) true),(7, .own (.it .u64) true)]⟩
noncomputable def C4a:Sk:=⟨[(5, .f (.a (.ref 5))),(6, .f (.a (.ref 6))),(7, .f (.a (.ref 7))),(8, .d (.it .i64)),(9, .d (.it .u64)),(10, .d (.it .i64))],[(5, .own (.it .u64) true),(6, .own (.it .u64) true),(7, .own (.it .u64) true)]⟩
noncomputable def B7q (gl0:Int→(List Int)→(List Int)→(List Int)→Option v7) (gl1:Int→Int→Int→(List Int)→(List Int)→(List Int)→Option v7):List (C9 v7):=[⟨4,C2i,fun s=>gl0 s.1.1 s.2.1 s.2.2.1 s.2.2.2.1⟩,⟨8,C4a,fun s=>gl1 s.1.1 s.1.2.1 s.1.2.2.1 s.2.1 s.2.2.1 s.2.2.2.1⟩]
noncomputable def B9Z (c221:(List Int)→Option S0) (c229:ByteArray→Option W4):List FE:=[B0N c221,B4k c229]
section
variable (gl0:Int→(List Int)→(List Int)→(List Int)→Option v7) (gl1:Int→Int→Int→(List Int)→(List Int)→(List Int)→Option v7) (c221:(List Int)→Option S0) (c229:ByteArray→Option W4)
noncomputable def C4Y (x8:Int) (x5:(List Int)) (x6:(List Int)) (x7:(List Int)):Option v7:=if x8<(x5.length:Int)then(gl1 x8 0 0 x5 x6 x7)else((c221 x7).bind fun r1=>(some r1))
theorem F0V (s0:C5 A6E.ask.bl) (s:C2i.T):A6E.po E0 (B9Z c221 c229) (B7q gl0 gl1) s0 0 (C2i.mk' s)=C4Y gl1 c221 s.1.1 s.2.1 s.2.2.1 s.2.2.2.1:=by kernel_rfl
noncomputable def C2x (x8:Int) (x9:Int) (x10:Int) (x5:(List Int)) (x6:(List Int)) (x7:(List Int)):Option v7:=if x10<(x6.length:Int)then(if 0≤wrap64 (x8+x10)then(if wrap64 (x8+x10)<(x7.length:Int)then(if 0≤x8 then(if x8<(x5.length:Int)then(if 0≤x10 then(if x10<(x6.length:Int)then(if 0≤wrap64 (x8+x10)then(if wrap64 (x8+x10)<(x7.length:Int)then(if(0:Int)≤32 then(gl1 x8 ((IntKind.u64.wrap ((IntKind.u64.wrap ((rd x7 (wrap64 (x8+x10)))+(IntKind.u64.wrap ((rd x5 x8)*(rd x6 x10)))))+x9))/4294967296) (wrap64 (x10+1)) x5 x6 (x7.set (wrap64 (x8+x10):Int).toNat (Go.bits .and .u64 (IntKind.u64.wrap ((IntKind.u64.wrap ((rd x7 (wrap64 (x8+x10)))+(IntKind.u64.wrap ((rd x5 x8)*(rd x6 x10)))))+x9)) 4294967295)))else(none))else(none))else(none))else(none))else(none))else(none))else(none))else(none))else(none))else(if 0≤wrap64 (x8+(x6.length:Int))then(if wrap64 (x8+(x6.length:Int))<(x7.length:Int)then(gl0 (wrap64 (x8+1)) x5 x6 (x7.set (wrap64 (x8+(x6.length:Int)):Int).toNat x9))else(none))else(none))
theorem E7T (s0:C5 A6E.ask.bl) (s:C4a.T):A6E.po E0 (B9Z c221 c229) (B7q gl0 gl1) s0 1 (C4a.mk' s)=C2x gl0 gl1 s.1.1 s.1.2.1 s.1.2.2.1 s.2.1 s.2.2.1 s.2.2.2.1:=by kernel_rfl
noncomputable def D1U (x0:ByteArray) (x1:ByteArray):Option v7:=(c229 x0).bind fun r1=>((c229 x1).bind fun r2=>(if 0≤wrap64 ((r1.length:Int)+(r2.length:Int))then(if wrap64 ((r1.length:Int)+(r2.length:Int))≤wrap64 ((r1.length:Int)+(r2.length:Int))then(if(wrap64 ((r1.length:Int)+(r2.length:Int)):Int).toNat≤35184372088832 then(gl0 0 r1 r2 (List.replicate (wrap64 ((r1.length:Int)+(r2.length:Int)):Int).toNat (0:Int)))else(none))else(none))else(none)))
theorem F0g (s:A6E.ask.T):A6E.ev E0 (B9Z c221 c229) (B7q gl0 gl1) s=D1U gl0 c229 s.1.1 s.1.2.1:=by kernel_rfl
end
noncomputable def D4S (c198:Bool→ByteArray→Option A3u) (c202:ByteArray→ByteArray→Option v7):List FE:=[B8I c198,D9u c202]
section
variable (c198:Bool→ByteArray→Option A3u) (c202:ByteArray→ByteArray→Option v7)
noncomputable def C7A (x0:TI) (x1:TI):Option A6i:=(c202 x0.2 x1.2).bind fun r1=>((c198 (!(x0.1==x1.1)) r1).bind fun r2=>(some (r2.1,r2.2)))
theorem E1l (s:B6z.ask.T):B6z.ev E0 (D4S c198 c202) [] s=C7A c198 c202 s.1.1 s.1.2.1:=by kernel_rfl
end
noncomputable def A4v (x0:TQ):Option A6O:=some (false,x0.2)
theorem E3Q (s:B9I.ask.T):B9I.ev E0 [] [] s=A4v s.1.1:=by kernel_rfl
noncomputable def D3X (c180:ByteArray→ByteArray→Option A0x) (c198:Bool→ByteArray→Option A3u) (c203:ByteArray→ByteArray→Option W3):List FE:=[C9f c180,B8I c198,C2t c203]
section
variable (c180:ByteArray→ByteArray→Option A0x) (c198:Bool→ByteArray→Option A3u) (c203:ByteArray→ByteArray→Option W3)
noncomputable def B9R (x0:TI) (x1:TI):Option A6l:=B3 ((E6 x1.2 (⟨#[]⟩:ByteArray))) (some ((false,(⟨#[]⟩:ByteArray)),(⟨#[1]⟩:ByteArray))) ((c180 x0.2 x1.2).bind fun r1=>((c203 x0.2 r1).bind fun r2=>((c203 x1.2 r1).bind fun r3=>((c198 (!(x0.1==x1.1)) r2.1).bind fun r4=>(some ((r4.1,r4.2),r3.1))))))
theorem E1y (s:B6m.ask.T):B6m.ev E0 (D3X c180 c198 c203) [] s=B9R c180 c198 c203 s.1.1 s.1.2.1:=by kernel_rfl
end
noncomputable def D2P (c159:TI→Option A6e) (c160:TI→TI→Option B1n) (c161:TI→TI→Option A6i) (c162:TQ→Option A6O) (c163:TI→TI→Option A6l):List FE:=[C6w c159,D4n c160,C4e c161,C7N c162,C3j c163]
section
variable (c159:TI→Option A6e) (c160:TI→TI→Option B1n) (c161:TI→TI→Option A6i) (c162:TQ→Option A6O) (c163:TI→TI→Option A6l)
noncomputable def B1H (x0:TQ) (x1:TQ):Option A6q:=B3 ((E6 x0.2 (⟨#[1]⟩:ByteArray))) (B3 ((E6 x1.2 (⟨#[1]⟩:ByteArray))) ((c160 x0.1 x1.1).bind fun r1=>((c159 (r1.1,r1.2)).bind fun r2=>(some (r2.1,r2.2)))) ((c162 x1).bind fun r3=>((c161 x0.1 (r3.1,r3.2)).bind fun r4=>((c162 x0).bind fun r5=>((c161 x1.1 (r5.1,r5.2)).bind fun r6=>((c160 (r4.1,r4.2) (r6.1,r6.2)).bind fun r7=>((c162 x0).bind fun r8=>((c162 x1).bind fun r9=>((c161 (r8.1,r8.2) (r9.1,r9.2)).bind fun r10=>((c163 (r7.1,r7.2) (r10.1,r10.2)).bind fun r11=>(some (r11.1,r11.2)))))))))))) ((c162 x1).bind fun r12=>((c161 x0.1 (r12.1,r12.2)).bind fun r13=>((c162 x0).bind fun r14=>((c161 x1.1 (r14.1,r14.2)).bind fun r15=>((c160 (r13.1,r13.2) (r15.1,r15.2)).bind fun r16=>((c162 x0).bind fun r17=>((c162 x1).bind fun r18=>((c161 (r17.1,r17.2) (r18.1,r18.2)).bind fun r19=>((c163 (r16.1,r16.2) (r19.1,r19.2)).bind fun r20=>(some (r20.1,r20.2)))))))))))
theorem E0P (s:B6x.ask.T):B6x.ev E0 (D2P c159 c160 c161 c162 c163) [] s=B1H c159 c160 c161 c162 c163 s.1.1 s.1.2.1:=by kernel_rfl
end
noncomputable def D5t (c81:Int→Option Z5):List FE:=[A5y c81]
section
variable (c81:Int→Option Z5)
noncomputable def B3S (x0:TP) (x1:Int):Option B2j:=if x1<(x0.length:Int)then(if 0≤x1 then(if x1<(x0.length:Int)then(some ((C4 ((false,(⟨#[]⟩:ByteArray)),(⟨#[]⟩:ByteArray)) x0 x1).1,(C4 ((false,(⟨#[]⟩:ByteArray)),(⟨#[]⟩:ByteArray)) x0 x1).2))else(none))else(none))else((c81 0).bind fun r1=>(some (r1.1,r1.2)))
theorem F4i (s:C0O.ask.T):C0O.ev E0 (D5t c81) [] s=B3S c81 s.1.1 s.1.2.1:=by kernel_rfl
end
noncomputable def C8n:Sk:=⟨[(0, .d (.li tQ)),(1, .d (.li tQ)),(5, .f (.a (.ref 5))),(6, .d (.it .i64))],[(5, .own tQ true)]⟩
noncomputable def C8P (gl0:TP→TP→Int→TP→Option Y0):List (C9 Y0):=[⟨3,C8n,fun s=>gl0 s.1.1 s.1.2.1 s.1.2.2.1 s.2.1⟩]
noncomputable def C5o (c48:TP→Option V8) (c101:TQ→TQ→Option A6q) (c102:TP→Int→Option B2j):List FE:=[A8U c48,C7I c101,D7T c102]
section
variable (gl0:TP→TP→Int→TP→Option Y0) (c48:TP→Option V8) (c101:TQ→TQ→Option A6q) (c102:TP→Int→Option B2j)
noncomputable def A7z (x0:TP) (x1:TP) (x6:Int) (x5:TP):Option Y0:=if x6<mx (x0.length:Int) (x1.length:Int)then((c102 x0 x6).bind fun r1=>((c102 x1 x6).bind fun r2=>((c101 (r1.1,r1.2) (r2.1,r2.2)).bind fun r3=>(if(x5.length+1)*40≤140737488355328 then(gl0 x0 x1 (wrap64 (x6+1)) (x5++([(r3.1,r3.2)]:List TQ)))else(none)))))else((c48 x5).bind fun r4=>(some r4))
theorem E8Q (s0:C5 D20.ask.bl) (s:C8n.T):D20.po E0 (C5o c48 c101 c102) (C8P gl0) s0 0 (C8n.mk' s)=A7z gl0 c48 c101 c102 s.1.1 s.1.2.1 s.1.2.2.1 s.2.1:=by kernel_rfl
noncomputable def B20 (x0:TP) (x1:TP):Option Y0:=gl0 x0 x1 0 ([]:List TQ)
theorem e20 (s:D20.ask.T):D20.ev E0 (C5o c48 c101 c102) (C8P gl0) s=B20 gl0 s.1.1 s.1.2.1:=by kernel_rfl
end
noncomputable def B5r (x0:TF) (x1:Int):Option B1x:=if x1<(x0.length:Int)then(if 0≤x1 then(if x1<(x0.length:Int)then(some (C4 ([]:List TQ) x0 x1))else(none))else(none))else(some ([]:List TQ))
theorem E3E (s:C0c.ask.T):C0c.ev E0 [] [] s=B5r s.1.1 s.1.2.1:=by kernel_rfl
noncomputable def C2B:Sk:=⟨[(0, .d (.li (.li tQ))),(3, .d (.it .i64))],[]⟩
noncomputable def C8w (gl0:TF→Int→Option i6):List (C9 i6):=[⟨2,C2B,fun s=>gl0 s.1.1 s.1.2.1⟩]
section
variable (gl0:TF→Int→Option i6)
noncomputable def A9J (x0:TF) (x3:Int):Option i6:=if x3>0 then(if 0≤wrap64 (x3-1)then(if wrap64 (x3-1)<(x0.length:Int)then(if((C4 ([]:List TQ) x0 (wrap64 (x3-1))).length:Int)=0 then(gl0 x0 (wrap64 (x3-1)))else(if(0:Int)≤0 then(if 0≤x3 then(if x3≤(x0.length:Int)then(if(x0.length:Int)≤(x0.length:Int)then(if(([]:List TP).length+(slice_ x0 0 x3).length)*24≤140737488355328 then(some (([]:List TP)++(slice_ x0 0 x3)))else(none))else(none))else(none))else(none))else(none)))else(none))else(none))else(if(0:Int)≤0 then(if 0≤x3 then(if x3≤(x0.length:Int)then(if(x0.length:Int)≤(x0.length:Int)then(if(([]:List TP).length+(slice_ x0 0 x3).length)*24≤140737488355328 then(some (([]:List TP)++(slice_ x0 0 x3)))else(none))else(none))else(none))else(none))else(none))
theorem F2M (s0:C5 B2D.ask.bl) (s:C2B.T):B2D.po E0 [] (C8w gl0) s0 0 (C2B.mk' s)=A9J gl0 s.1.1 s.1.2.1:=by kernel_rfl
noncomputable def B4t (x0:TF):Option i6:=gl0 x0 (x0.length:Int)
theorem F6X (s:B2D.ask.T):B2D.ev E0 [] (C8w gl0) s=B4t gl0 s.1.1:=by kernel_rfl
end
noncomputable def D0X:Sk:=⟨[(0, .d (.li (.li tQ))),(1, .d (.li (.li tQ))),(5, .f (.a (.ref 5))),(6, .d (.it .i64))],[(5, .own (.li tQ) true)]⟩
noncomputable def C4Q (gl0:TF→TF→Int→TF→Option R23):List (C9 R23):=[⟨3,D0X,fun s=>gl0 s.1.1 s.1.2.1 s.1.2.2.1 s.2.1⟩]
noncomputable def C5C (c20:TP→TP→Option Y0) (c103:TF→Int→Option B1x) (c104:TF→Option i6):List FE:=[B3A c20,D9e c103,B3b c104]
section
variable (gl0:TF→TF→Int→TF→Option R23) (c20:TP→TP→Option Y0) (c103:TF→Int→Option B1x) (c104:TF→Option i6)
noncomputable def A7f (x0:TF) (x1:TF) (x6:Int) (x5:TF):Option R23:=if x6<mx (x0.length:Int) (x1.length:Int)then((c103 x0 x6).bind fun r1=>((c103 x1 x6).bind fun r2=>((c20 r1 r2).bind fun r3=>(if(x5.length+1)*24≤140737488355328 then(gl0 x0 x1 (wrap64 (x6+1)) (x5++([r3]:List TP)))else(none)))))else((c104 x5).bind fun r4=>(some r4))
theorem E3n (s0:C5 D23.ask.bl) (s:D0X.T):D23.po E0 (C5C c20 c103 c104) (C4Q gl0) s0 0 (D0X.mk' s)=A7f gl0 c20 c103 c104 s.1.1 s.1.2.1 s.1.2.2.1 s.2.1:=by kernel_rfl
noncomputable def B23 (x0:TF) (x1:TF):Option R23:=gl0 x0 x1 0 ([]:List TP)
theorem e23 (s:D23.ask.T):D23.ev E0 (C5C c20 c103 c104) (C4Q gl0) s=B23 gl0 s.1.1 s.1.2.1:=by kernel_rfl
end
noncomputable def D9G (c159:TI→Option A6e) (c161:TI→TI→Option A6i) (c162:TQ→Option A6O) (c163:TI→TI→Option A6l):List FE:=[C6w c159,C4e c161,C7N c162,C3j c163]
section
variable (c159:TI→Option A6e) (c161:TI→TI→Option A6i) (c162:TQ→Option A6O) (c163:TI→TI→Option A6l)
noncomputable def B0l (x0:TQ) (x1:TQ):Option A3s:=B3 ((E6 x0.2 (⟨#[1]⟩:ByteArray))) (B3 ((E6 x1.2 (⟨#[1]⟩:ByteArray))) ((c161 x0.1 x1.1).bind fun r1=>((c159 (r1.1,r1.2)).bind fun r2=>(some (r2.1,r2.2)))) ((c161 x0.1 x1.1).bind fun r3=>((c162 x0).bind fun r4=>((c162 x1).bind fun r5=>((c161 (r4.1,r4.2) (r5.1,r5.2)).bind fun r6=>((c163 (r3.1,r3.2) (r6.1,r6.2)).bind fun r7=>(some (r7.1,r7.2)))))))) ((c161 x0.1 x1.1).bind fun r8=>((c162 x0).bind fun r9=>((c162 x1).bind fun r10=>((c161 (r9.1,r9.2) (r10.1,r10.2)).bind fun r11=>((c163 (r8.1,r8.2) (r11.1,r11.2)).bind fun r12=>(some (r12.1,r12.2)))))))
theorem E4p (s:B9x.ask.T):B9x.ev E0 (D9G c159 c161 c162 c163) [] s=B0l c159 c161 c162 c163 s.1.1 s.1.2.1:=by kernel_rfl
end
noncomputable def C5H:Sk:=⟨[(0, .d (.li tQ)),(1, .d (.li tQ)),(5, .f (.a (.ref 5))),(6, .d (.it .i64))],[(5, .own tQ true)]⟩
noncomputable def D1V:Sk:=⟨[(0, .d (.li tQ)),(1, .d (.li tQ)),(5, .f (.a (.ref 5))),(6, .d (.it .i64)),(7, .f (.a (.ptr 7 0 []))),(21, .d (.it .i64)),(22, .d (.it .i64))],[(5, .own tQ true),(7, .cell tQ true)]⟩
noncomputable def C1F (gl0:TP→TP→Int→TP→Option Y3) (gl1:TP→TP→Int→Int→Int→TP→TQ→Option Y3):List (C9 Y3):=[⟨3,C5H,fun s=>gl0 s.1.1 s.1.2.1 s.1.2.2.1 s.2.1⟩,⟨7,D1V,fun s=>gl1 s.1.1 s.1.2.1 s.1.2.2.1 s.1.2.2.2.1 s.1.2.2.2.2.1 s.2.1 s.2.2.1⟩]
noncomputable def B6b (c48:TP→Option V8) (c81:Int→Option Z5) (c101:TQ→TQ→Option A6q) (c118:TQ→TQ→Option A3s):List FE:=[A8U c48,A5y c81,C7I c101,B6e c118]
section
variable (gl0:TP→TP→Int→TP→Option Y3) (gl1:TP→TP→Int→Int→Int→TP→TQ→Option Y3) (c48:TP→Option V8) (c81:Int→Option Z5) (c101:TQ→TQ→Option A6q) (c118:TQ→TQ→Option A3s)
noncomputable def A8e (x0:TP) (x1:TP) (x6:Int) (x5:TP):Option Y3:=if x6<wrap64 ((wrap64 ((x0.length:Int)+(x1.length:Int)))-1)then((c81 0).bind fun r1=>(gl1 x0 x1 x6 (x0.length:Int) 0 x5 (r1.1,r1.2)))else((c48 x5).bind fun r2=>(some r2))
theorem F3N (s0:C5 D45.ask.bl) (s:C5H.T):D45.po E0 (B6b c48 c81 c101 c118) (C1F gl0 gl1) s0 0 (C5H.mk' s)=A8e gl1 c48 c81 s.1.1 s.1.2.1 s.1.2.2.1 s.2.1:=by kernel_rfl
noncomputable def A8K (x0:TP) (x1:TP) (x6:Int) (x21:Int) (x22:Int) (x5:TP) (x7:TQ):Option Y3:=if x22<x21 then(if wrap64 (x6-x22)≥0 then(if wrap64 (x6-x22)<(x1.length:Int)then(if 0≤x22 then(if x22<(x0.length:Int)then(if 0≤wrap64 (x6-x22)then(if wrap64 (x6-x22)<(x1.length:Int)then((c118 (C4 ((false,(⟨#[]⟩:ByteArray)),(⟨#[]⟩:ByteArray)) x0 x22) (C4 ((false,(⟨#[]⟩:ByteArray)),(⟨#[]⟩:ByteArray)) x1 (wrap64 (x6-x22)))).bind fun r1=>((c101 x7 (r1.1,r1.2)).bind fun r2=>(gl1 x0 x1 x6 x21 (wrap64 (x22+1)) x5 (r2.1,r2.2))))else(none))else(none))else(none))else(none))else(gl1 x0 x1 x6 x21 (wrap64 (x22+1)) x5 x7))else(gl1 x0 x1 x6 x21 (wrap64 (x22+1)) x5 x7))else(if(x5.length+1)*40≤140737488355328 then(gl0 x0 x1 (wrap64 (x6+1)) (x5++([x7]:List TQ)))else(none))
theorem F2G (s0:C5 D45.ask.bl) (s:D1V.T):D45.po E0 (B6b c48 c81 c101 c118) (C1F gl0 gl1) s0 1 (D1V.mk' s)=A8K gl0 gl1 c101 c118 s.1.1 s.1.2.1 s.1.2.2.1 s.1.2.2.2.1 s.1.2.2.2.2.1 s.2.1 s.2.2.1:=by kernel_rfl
noncomputable def B45 (x0:TP) (x1:TP):Option Y3:=gl0 x0 x1 0 ([]:List TQ)
theorem e45 (s:D45.ask.T):D45.ev E0 (B6b c48 c81 c101 c118) (C1F gl0 gl1) s=B45 gl0 s.1.1 s.1.2.1:=by kernel_rfl
end
noncomputable def D0y:Sk:=⟨[(1, .d (.it .i64)),(2, .f (.a (.ptr 2 0 []))),(5, .f (.a (.ref 5))),(6, .d (.it .i64))],[(2, .cell tQ true),(5, .own tQ true)]⟩
noncomputable def C3Z (gl0:Int→Int→TQ→TP→Option R21):List (C9 R21):=[⟨3,D0y,fun s=>gl0 s.1.1 s.1.2.1 s.2.1 s.2.2.1⟩]
noncomputable def C7e (c48:TP→Option V8) (c81:Int→Option Z5):List FE:=[A8U c48,A5y c81]
section
variable (gl0:Int→Int→TQ→TP→Option R21) (c48:TP→Option V8) (c81:Int→Option Z5)
noncomputable def A9K (x1:Int) (x6:Int) (x2:TQ) (x5:TP):Option R21:=if x6<x1 then((c81 0).bind fun r1=>(if(x5.length+1)*40≤140737488355328 then(gl0 x1 (wrap64 (x6+1)) x2 (x5++([(r1.1,r1.2)]:List TQ)))else(none)))else(if(x5.length+1)*40≤140737488355328 then((c48 (x5++([x2]:List TQ))).bind fun r2=>(some r2))else(none))
theorem E8F (s0:C5 D21.ask.bl) (s:D0y.T):D21.po E0 (C7e c48 c81) (C3Z gl0) s0 0 (D0y.mk' s)=A9K gl0 c48 c81 s.1.1 s.1.2.1 s.2.1 s.2.2.1:=by kernel_rfl
noncomputable def B21 (x0:TQ) (x1:Int):Option R21:=gl0 x1 0 x0 ([]:List TQ)
theorem e21 (s:D21.ask.T):D21.ev E0 (C7e c48 c81) (C3Z gl0) s=B21 gl0 s.1.1 s.1.2.1:=by kernel_rfl
end
noncomputable def C2V:Sk:=⟨[(3, .f (.a (.ptr 3 0 []))),(5, .f (.a (.ref 5))),(8, .d (.li tQ)),(9, .d (.it .i64)),(10, .d (.it .i64))],[(3, .cell tQ true),(5, .own tQ true)]⟩
noncomputable def C3Y (gl0:TP→Int→Int→TQ→TP→Option R98):List (C9 R98):=[⟨3,C2V,fun s=>gl0 s.1.1 s.1.2.1 s.1.2.2.1 s.2.1 s.2.2.1⟩]
noncomputable def C7J (c48:TP→Option V8) (c118:TQ→TQ→Option A3s):List FE:=[A8U c48,B6e c118]
section
variable (gl0:TP→Int→Int→TQ→TP→Option R98) (c48:TP→Option V8) (c118:TQ→TQ→Option A3s)
noncomputable def A8r (x8:TP) (x9:Int) (x10:Int) (x3:TQ) (x5:TP):Option R98:=if x10<x9 then(if 0≤x10 then(if x10<(x8.length:Int)then((c118 (C4 ((false,(⟨#[]⟩:ByteArray)),(⟨#[]⟩:ByteArray)) x8 x10) x3).bind fun r1=>(if(x5.length+1)*40≤140737488355328 then(gl0 x8 x9 (wrap64 (x10+1)) x3 (x5++([(r1.1,r1.2)]:List TQ)))else(none)))else(none))else(none))else((c48 x5).bind fun r2=>(some r2))
theorem F3O (s0:C5 D98.ask.bl) (s:C2V.T):D98.po E0 (C7J c48 c118) (C3Y gl0) s0 0 (C2V.mk' s)=A8r gl0 c48 c118 s.1.1 s.1.2.1 s.1.2.2.1 s.2.1 s.2.2.1:=by kernel_rfl
noncomputable def B98 (x0:TP) (x1:TQ):Option R98:=gl0 x0 (x0.length:Int) 0 x1 ([]:List TQ)
theorem e98 (s:D98.ask.T):D98.ev E0 (C7J c48 c118) (C3Y gl0) s=B98 gl0 s.1.1 s.1.2.1:=by kernel_rfl
end
noncomputable def D8B (c20:TP→TP→Option Y0) (c81:Int→Option Z5) (c98:TP→TQ→Option R98):List FE:=[B3A c20,A5y c81,D6p c98]
section
variable (c20:TP→TP→Option Y0) (c81:Int→Option Z5) (c98:TP→TQ→Option R98)
noncomputable def B51 (x0:TP) (x1:TP):Option R51:=(c81 (-1)).bind fun r1=>((c98 x1 (r1.1,r1.2)).bind fun r2=>((c20 x0 r2).bind fun r3=>(some r3)))
theorem e51 (s:D51.ask.T):D51.ev E0 (D8B c20 c81 c98) [] s=B51 c20 c81 c98 s.1.1 s.1.2.1:=by kernel_rfl
end
noncomputable def C0G (x0:TQ):Option B0G:=B3 ((E6 x0.1.2 (⟨#[]⟩:ByteArray))) (some (x0.1,x0.2)) (some ((x0.1.1,x0.2),x0.1.2))
theorem F1K (s:B9l.ask.T):B9l.ev E0 [] [] s=C0G s.1.1:=by kernel_rfl
noncomputable def D9P (c118:TQ→TQ→Option A3s) (c157:TQ→Option B0G):List FE:=[B6e c118,D8g c157]
section
variable (c118:TQ→TQ→Option A3s) (c157:TQ→Option B0G)
noncomputable def B99 (x0:TQ) (x1:TQ):Option R99:=(c157 x1).bind fun r1=>((c118 x0 (r1.1,r1.2)).bind fun r2=>(some (r2.1,r2.2)))
theorem e99 (s:D99.ask.T):D99.ev E0 (D9P c118 c157) [] s=B99 c118 c157 s.1.1 s.1.2.1:=by kernel_rfl
end
noncomputable def C5u:Sk:=⟨[(1, .d (.li tQ)),(6, .d (.li tQ)),(7, .d (.li tQ))],[]⟩
noncomputable def C1d (gl0:TP→TP→TP→Option A2z):List (C9 A2z):=[⟨3,C5u,fun s=>gl0 s.1.1 s.1.2.1 s.1.2.2.1⟩]
noncomputable def C9t (c20:TP→TP→Option Y0) (c21:TQ→Int→Option R21) (c45:TP→TP→Option Y3) (c48:TP→Option V8) (c51:TP→TP→Option R51) (c80:TP→Option R80) (c99:TQ→TQ→Option R99):List FE:=[B3A c20,D5b c21,B9B c45,A8U c48,D8r c51,C3A c80,D9a c99]
section
variable (gl0:TP→TP→TP→Option A2z) (c20:TP→TP→Option Y0) (c21:TQ→Int→Option R21) (c45:TP→TP→Option Y3) (c48:TP→Option V8) (c51:TP→TP→Option R51) (c80:TP→Option R80) (c99:TQ→TQ→Option R99)
noncomputable def A9T (x1:TP) (x6:TP) (x7:TP):Option A2z:=if(x7.length:Int)≥(x1.length:Int)then((c80 x7).bind fun r1=>((c80 x1).bind fun r2=>((c99 (r1.1,r1.2) (r2.1,r2.2)).bind fun r3=>((c21 (r3.1,r3.2) (wrap64 ((x7.length:Int)-(x1.length:Int)))).bind fun r4=>((c20 x6 r4).bind fun r5=>((c45 r4 x1).bind fun r6=>((c51 x7 r6).bind fun r7=>(gl0 x1 r5 r7))))))))else(some (x6,x7))
theorem E2M (s0:C5 B2z.ask.bl) (s:C5u.T):B2z.po E0 (C9t c20 c21 c45 c48 c51 c80 c99) (C1d gl0) s0 0 (C5u.mk' s)=A9T gl0 c20 c21 c45 c51 c80 c99 s.1.1 s.1.2.1 s.1.2.2.1:=by kernel_rfl
noncomputable def B4J (x0:TP) (x1:TP):Option A2z:=(c48 x0).bind fun r1=>(gl0 x1 ([]:List TQ) r1)
theorem F3Z (s:B2z.ask.T):B2z.ev E0 (C9t c20 c21 c45 c48 c51 c80 c99) (C1d gl0) s=B4J gl0 c48 s.1.1 s.1.2.1:=by kernel_rfl
end
noncomputable def D5T (c210:TP→TP→Option A2z):List FE:=[D9v c210]
section
variable (c210:TP→TP→Option A2z)
noncomputable def B3T (x0:TP) (x1:TP):Option B2q:=(c210 x0 x1).bind fun r1=>(some r1.2)
theorem F4f (s:B9N.ask.T):B9N.ev E0 (D5T c210) [] s=B3T c210 s.1.1 s.1.2.1:=by kernel_rfl
end
noncomputable def D8i (c167:TP→TP→Option B2q):List FE:=[D4f c167]
section
variable (c167:TP→TP→Option B2q)
noncomputable def B5o (x0:TP) (x1:TP):Option A3v:=(c167 x1 x0).bind fun r1=>(some r1)
theorem F7C (s:B9H.ask.T):B9H.ev E0 (D8i c167) [] s=B5o c167 s.1.1 s.1.2.1:=by kernel_rfl
end
noncomputable def C4N:Sk:=⟨[(1, .d (.li (.li tQ))),(2, .d (.li (.li tQ))),(3, .f (.a (.ptr 3 0 []))),(7, .f (.a (.ref 7))),(8, .d (.it .i64))],[(3, .cell (.ag (.li tQ)) true),(7, .own (.li tQ) true)]⟩
noncomputable def C2z:Sk:=⟨[(1, .d (.li (.li tQ))),(2, .d (.li (.li tQ))),(3, .f (.a (.ptr 3 0 []))),(7, .f (.a (.ref 7))),(8, .d (.it .i64)),(9, .d (.li tQ)),(22, .d (.it .i64)),(23, .d (.it .i64))],[(3, .cell (.ag (.li tQ)) true),(7, .own (.li tQ) true)]⟩
noncomputable def B7l (gl0:TF→TF→Int→TP→TF→Option t6) (gl1:TF→TF→Int→TP→Int→Int→TP→TF→Option t6):List (C9 t6):=[⟨3,C4N,fun s=>gl0 s.1.1 s.1.2.1 s.1.2.2.1 s.2.1 s.2.2.1⟩,⟨7,C2z,fun s=>gl1 s.1.1 s.1.2.1 s.1.2.2.1 s.1.2.2.2.1 s.1.2.2.2.2.1 s.1.2.2.2.2.2.1 s.2.1 s.2.2.1⟩]
noncomputable def B9m (c20:TP→TP→Option Y0) (c45:TP→TP→Option Y3) (c104:TF→Option i6) (c109:TP→TP→Option A3v):List FE:=[B3A c20,B9B c45,B3b c104,B7S c109]
section
variable (gl0:TF→TF→Int→TP→TF→Option t6) (gl1:TF→TF→Int→TP→Int→Int→TP→TF→Option t6) (c20:TP→TP→Option Y0) (c45:TP→TP→Option Y3) (c104:TF→Option i6) (c109:TP→TP→Option A3v)
noncomputable def A9Y (x1:TF) (x2:TF) (x8:Int) (x3:TP) (x7:TF):Option t6:=if x8<wrap64 ((wrap64 ((x1.length:Int)+(x2.length:Int)))-1)then(gl1 x1 x2 x8 ([]:List TQ) (x1.length:Int) 0 x3 x7)else((c104 x7).bind fun r1=>(some r1))
theorem E2I (s0:C5 D30.ask.bl) (s:C4N.T):D30.po E0 (B9m c20 c45 c104 c109) (B7l gl0 gl1) s0 0 (C4N.mk' s)=A9Y gl1 c104 s.1.1 s.1.2.1 s.1.2.2.1 s.2.1 s.2.2.1:=by kernel_rfl
noncomputable def A8i (x1:TF) (x2:TF) (x8:Int) (x9:TP) (x22:Int) (x23:Int) (x3:TP) (x7:TF):Option t6:=if x23<x22 then(if wrap64 (x8-x23)≥0 then(if wrap64 (x8-x23)<(x2.length:Int)then(if 0≤x23 then(if x23<(x1.length:Int)then(if 0≤wrap64 (x8-x23)then(if wrap64 (x8-x23)<(x2.length:Int)then((c45 (C4 ([]:List TQ) x1 x23) (C4 ([]:List TQ) x2 (wrap64 (x8-x23)))).bind fun r1=>((c20 x9 r1).bind fun r2=>(gl1 x1 x2 x8 r2 x22 (wrap64 (x23+1)) x3 x7)))else(none))else(none))else(none))else(none))else(gl1 x1 x2 x8 x9 x22 (wrap64 (x23+1)) x3 x7))else(gl1 x1 x2 x8 x9 x22 (wrap64 (x23+1)) x3 x7))else((c109 x3 x9).bind fun r3=>(if(x7.length+1)*24≤140737488355328 then(gl0 x1 x2 (wrap64 (x8+1)) x3 (x7++([r3]:List TP)))else(none)))
theorem E7U (s0:C5 D30.ask.bl) (s:C2z.T):D30.po E0 (B9m c20 c45 c104 c109) (B7l gl0 gl1) s0 1 (C2z.mk' s)=A8i gl0 gl1 c20 c45 c109 s.1.1 s.1.2.1 s.1.2.2.1 s.1.2.2.2.1 s.1.2.2.2.2.1 s.1.2.2.2.2.2.1 s.2.1 s.2.2.1:=by kernel_rfl
noncomputable def B30 (x0:TP) (x1:TF) (x2:TF):Option t6:=gl0 x1 x2 0 x0 ([]:List TP)
theorem e30 (s:D30.ask.T):D30.ev E0 (B9m c20 c45 c104 c109) (B7l gl0 gl1) s=B30 gl0 s.1.1 s.1.2.1 s.1.2.2.1:=by kernel_rfl
end
noncomputable def C5V:Sk:=⟨[(1, .d (.li (.li tQ))),(2, .d (.li tQ)),(3, .f (.a (.ptr 3 0 []))),(7, .d (.li (.li tQ))),(8, .d (.it .i64))],[(3, .cell (.ag (.li tQ)) true)]⟩
noncomputable def C9x (gl0:TF→TP→TF→Int→TP→Option R58):List (C9 R58):=[⟨3,C5V,fun s=>gl0 s.1.1 s.1.2.1 s.1.2.2.1 s.1.2.2.2.1 s.2.1⟩]
noncomputable def C3C (c22:(List Int)→Option R22) (c23:TF→TF→Option R23) (c30:TP→TF→TF→Option t6) (c104:TF→Option i6) (c109:TP→TP→Option A3v):List FE:=[C8z c22,D2w c23,D2l c30,B3b c104,B7S c109]
section
variable (gl0:TF→TP→TF→Int→TP→Option R58) (c22:(List Int)→Option R22) (c23:TF→TF→Option R23) (c30:TP→TF→TF→Option t6) (c104:TF→Option i6) (c109:TP→TP→Option A3v)
noncomputable def A9m (x1:TF) (x2:TP) (x7:TF) (x8:Int) (x3:TP):Option R58:=if x8≥0 then((c22 ([1]:List Int)).bind fun r1=>((c109 x3 r1).bind fun r2=>((c104 ([x2,r2]:List TP)).bind fun r3=>((c30 x3 x7 r3).bind fun r4=>(if 0≤x8 then(if x8<(x1.length:Int)then((c104 ([C4 ([]:List TQ) x1 x8]:List TP)).bind fun r5=>((c23 r4 r5).bind fun r6=>(gl0 x1 x2 r6 (wrap64 (x8-1)) x3)))else(none))else(none))))))else(some x7)
theorem E2b (s0:C5 D58.ask.bl) (s:C5V.T):D58.po E0 (C3C c22 c23 c30 c104 c109) (C9x gl0) s0 0 (C5V.mk' s)=A9m gl0 c22 c23 c30 c104 c109 s.1.1 s.1.2.1 s.1.2.2.1 s.1.2.2.2.1 s.2.1:=by kernel_rfl
noncomputable def B58 (x0:TP) (x1:TF) (x2:TP):Option R58:=gl0 x1 x2 ([]:List TP) (wrap64 ((x1.length:Int)-1)) x0
theorem e58 (s:D58.ask.T):D58.ev E0 (C3C c22 c23 c30 c104 c109) (C9x gl0) s=B58 gl0 s.1.1 s.1.2.1 s.1.2.2.1:=by kernel_rfl
end
noncomputable def D9f (c58:TP→TF→TP→Option R58):List FE:=[D2G c58]
section
variable (c58:TP→TF→TP→Option R58)
noncomputable def B57 (x0:TP) (x1:TF) (x2:TP):Option R57:=(c58 x0 x1 x2).bind fun r1=>(some r1)
theorem e57 (s:D57.ask.T):D57.ev E0 (D9f c58) [] s=B57 c58 s.1.1 s.1.2.1 s.1.2.2.1:=by kernel_rfl
end
noncomputable def D2T (c29:TF→TF→Option t3) (c44:TF→Option R44) (c57:TP→TF→TP→Option R57):List FE:=[C0i c29,C6p c44,D8a c57]
section
variable (c29:TF→TF→Option t3) (c44:TF→Option R44) (c57:TP→TF→TP→Option R57)
noncomputable def A9A (x0:TF) (x1:Int) (x2:Int) (x3:(TP×TF×TP×Unit)):Option B0X:=if x2≠0 then(if x1=x2 then(some (decide ((x0.length:Int)=0)))else(some false))else((c57 x3.1 x3.2.1 x3.2.2.1).bind fun r1=>((c44 r1).bind fun r2=>(if r2≠0 then(if x1=r2 then(some (decide ((x0.length:Int)=0)))else(some false))else(if x1=0 then((c29 x0 r1).bind fun r3=>(some r3))else(some false)))))
theorem E7q (s:B8O.ask.T):B8O.ev E0 (D2T c29 c44 c57) [] s=A9A c29 c44 c57 s.1.1 s.1.2.1 s.1.2.2.1 s.1.2.2.2.1:=by kernel_rfl
end
noncomputable def D3O (c45:TP→TP→Option Y3) (c109:TP→TP→Option A3v):List FE:=[B9B c45,B7S c109]
section
variable (c45:TP→TP→Option Y3) (c109:TP→TP→Option A3v)
noncomputable def B5n (x0:TP) (x1:TP) (x2:TP):Option A6p:=(c45 x1 x2).bind fun r1=>((c109 x0 r1).bind fun r2=>(some r2))
theorem E6h (s:B9U.ask.T):B9U.ev E0 (D3O c45 c109) [] s=B5n c45 c109 s.1.1 s.1.2.1 s.1.2.2.1:=by kernel_rfl
end
noncomputable def C9p:Sk:=⟨[(2, .d (.li tQ)),(3, .f (.a (.ptr 3 0 []))),(7, .f (.a (.ref 7))),(10, .d (.li (.li tQ))),(11, .d (.it .i64)),(12, .d (.it .i64))],[(3, .cell (.ag (.li tQ)) true),(7, .own (.li tQ) true)]⟩
noncomputable def C7W (gl0:TP→TF→Int→Int→TP→TF→Option R60):List (C9 R60):=[⟨3,C9p,fun s=>gl0 s.1.1 s.1.2.1 s.1.2.2.1 s.1.2.2.2.1 s.2.1 s.2.2.1⟩]
noncomputable def C2L (c104:TF→Option i6) (c116:TP→TP→TP→Option A6p):List FE:=[B3b c104,C4L c116]
section
variable (gl0:TP→TF→Int→Int→TP→TF→Option R60) (c104:TF→Option i6) (c116:TP→TP→TP→Option A6p)
noncomputable def A7W (x2:TP) (x10:TF) (x11:Int) (x12:Int) (x3:TP) (x7:TF):Option R60:=if x12<x11 then(if 0≤x12 then(if x12<(x10.length:Int)then((c116 x3 (C4 ([]:List TQ) x10 x12) x2).bind fun r1=>(if(x7.length+1)*24≤140737488355328 then(gl0 x2 x10 x11 (wrap64 (x12+1)) x3 (x7++([r1]:List TP)))else(none)))else(none))else(none))else((c104 x7).bind fun r2=>(some r2))
theorem E9x (s0:C5 D60.ask.bl) (s:C9p.T):D60.po E0 (C2L c104 c116) (C7W gl0) s0 0 (C9p.mk' s)=A7W gl0 c104 c116 s.1.1 s.1.2.1 s.1.2.2.1 s.1.2.2.2.1 s.2.1 s.2.2.1:=by kernel_rfl
noncomputable def B60 (x0:TP) (x1:TF) (x2:TP):Option R60:=gl0 x2 x1 (x1.length:Int) 0 x0 ([]:List TP)
theorem e60 (s:D60.ask.T):D60.ev E0 (C2L c104 c116) (C7W gl0) s=B60 gl0 s.1.1 s.1.2.1 s.1.2.2.1:=by kernel_rfl
end
noncomputable def D3P (c60:TP→TF→TP→Option R60):List FE:=[D9M c60]
section
variable (c60:TP→TF→TP→Option R60)
noncomputable def B59 (x0:TP) (x1:TF) (x2:TP):Option R59:=(c60 x0 x1 x2).bind fun r1=>(some r1)
theorem e59 (s:D59.ask.T):D59.ev E0 (D3P c60) [] s=B59 c60 s.1.1 s.1.2.1 s.1.2.2.1:=by kernel_rfl
end
noncomputable def D8W (c29:TF→TF→Option t3) (c44:TF→Option R44) (c59:TP→TF→TP→Option R59):List FE:=[C0i c29,C6p c44,D5n c59]
section
variable (c29:TF→TF→Option t3) (c44:TF→Option R44) (c59:TP→TF→TP→Option R59)
noncomputable def A8v (x0:TF) (x1:Int) (x2:Int) (x3:(TP×TF×TP×Unit)):Option B2V:=if x2≠0 then(if x1=x2 then(some (decide ((x0.length:Int)=0)))else(some false))else((c59 x3.1 x3.2.1 x3.2.2.1).bind fun r1=>((c44 r1).bind fun r2=>(if r2≠0 then(if x1=r2 then(some (decide ((x0.length:Int)=0)))else(some false))else(if x1=0 then((c29 x0 r1).bind fun r3=>(some r3))else(some false)))))
theorem E0K (s:C0E.ask.T):C0E.ev E0 (D8W c29 c44 c59) [] s=A8v c29 c44 c59 s.1.1 s.1.2.1 s.1.2.2.1 s.1.2.2.2.1:=by kernel_rfl
end
noncomputable def D8U (c83:TP→(List TF)→Option U2) (c85:TP→TF→TP→Option R85) (c124:TP→TP→Option A1m) (c128:TF→Option A6J):List FE:=[A9n c83,C2K c85,B3o c124,C2r c128]
section
variable (c83:TP→(List TF)→Option U2) (c85:TP→TF→TP→Option R85) (c124:TP→TP→Option A1m) (c128:TF→Option A6J)
noncomputable def B52 (x0:TP) (x1:TF) (x2:TP):Option R52:=(c83 x0 ([x1]:List TF)).bind fun r1=>(if r1≠0 then(some (([]:List TQ),r1))else((c124 x0 x2).bind fun r2=>(if r2≠0 then(some (([]:List TQ),r2))else((c85 x0 x1 x2).bind fun r3=>((c128 ([r3]:List TP)).bind fun r4=>(B3 (r4) (some (([]:List TQ),4)) (some (r3,0))))))))
theorem e52 (s:D52.ask.T):D52.ev E0 (D8U c83 c85 c124 c128) [] s=B52 c83 c85 c124 c128 s.1.1 s.1.2.1 s.1.2.2.1:=by kernel_rfl
end
noncomputable def D9g (c13:TP→Option T9) (c49:TP→TP→Option R49) (c55:TP→TP→Option R55):List FE:=[A7g c13,C8f c49,B6a c55]
section
variable (c13:TP→Option T9) (c49:TP→TP→Option R49) (c55:TP→TP→Option R55)
noncomputable def B54 (x0:TP) (x1:TP):Option R54:=(c13 x0).bind fun r1=>(if r1=0 then((c55 x0 x1).bind fun r2=>(if r2=0 then((c49 x0 x1).bind fun r3=>(some (!r3)))else(some false)))else(some false))
theorem e54 (s:D54.ask.T):D54.ev E0 (D9g c13 c49 c55) [] s=B54 c13 c49 c55 s.1.1 s.1.2.1:=by kernel_rfl
end
noncomputable def D2Z (c131:TP→TF→TP→Option A0T):List FE:=[C2O c131]
section
variable (c131:TP→TF→TP→Option A0T)
noncomputable def C1l (x0:TP) (x1:TF) (x2:TP):Option B1W:=(c131 x0 x1 x2).bind fun r1=>(some r1)
theorem E9l (s:B7g.ask.T):B7g.ev E0 (D2Z c131) [] s=C1l c131 s.1.1 s.1.2.1 s.1.2.2.1:=by kernel_rfl
end
noncomputable def D2u (c108:TF→Option A1h) (c130:TP→TF→TP→Option B1W):List FE:=[B3j c108,D2m c130]
section
variable (c108:TF→Option A1h) (c130:TP→TF→TP→Option B1W)
noncomputable def B4G (x0:(TP×TF×TP×Unit)):Option B0E:=(c130 x0.1 x0.2.1 x0.2.2.1).bind fun r1=>((c108 r1).bind fun r2=>(B3 (r2) (some (([]:List TP),4)) (some (r1,0))))
theorem E2h (s:B6M.ask.T):B6M.ev E0 (D2u c108 c130) [] s=B4G c108 c130 s.1.1:=by kernel_rfl
end
noncomputable def D8Q (c83:TP→(List TF)→Option U2) (c111Scale:(TP×TF×TP×Unit)→Option B0E) (c124:TP→TP→Option A1m):List FE:=[A9n c83,D8R c111Scale,B3o c124]
section
variable (c83:TP→(List TF)→Option U2) (c111Scale:(TP×TF×TP×Unit)→Option B0E) (c124:TP→TP→Option A1m)
noncomputable def B56 (x0:TP) (x1:TF) (x2:TP):Option R56:=(c83 x0 ([x1]:List TF)).bind fun r1=>(if r1≠0 then(some (([]:List TP),r1))else((c124 x0 x2).bind fun r2=>(if r2≠0 then(some (([]:List TP),r2))else((c111Scale (x0,x1,x2,())).bind fun r3=>(some (r3.1,r3.2))))))
theorem e56 (s:D56.ask.T):D56.ev E0 (D8Q c83 c111Scale c124) [] s=B56 c83 c111Scale c124 s.1.1 s.1.2.1 s.1.2.2.1:=by kernel_rfl
end
noncomputable def C2R:Sk:=⟨[(1, .d (.li (.li tQ))),(2, .d (.li tQ)),(3, .f (.a (.ptr 3 0 []))),(7, .d (.li tQ)),(8, .d (.it .i64))],[(3, .cell (.ag (.li tQ)) true)]⟩
noncomputable def C6F (gl0:TF→TP→TP→Int→TP→Option R61):List (C9 R61):=[⟨3,C2R,fun s=>gl0 s.1.1 s.1.2.1 s.1.2.2.1 s.1.2.2.2.1 s.2.1⟩]
noncomputable def C1h (c20:TP→TP→Option Y0) (c116:TP→TP→TP→Option A6p):List FE:=[B3A c20,C4L c116]
section
variable (gl0:TF→TP→TP→Int→TP→Option R61) (c20:TP→TP→Option Y0) (c116:TP→TP→TP→Option A6p)
noncomputable def A9Z (x1:TF) (x2:TP) (x7:TP) (x8:Int) (x3:TP):Option R61:=if x8≥0 then((c116 x3 x7 x2).bind fun r1=>(if 0≤x8 then(if x8<(x1.length:Int)then((c20 r1 (C4 ([]:List TQ) x1 x8)).bind fun r2=>(gl0 x1 x2 r2 (wrap64 (x8-1)) x3))else(none))else(none)))else(some x7)
theorem F7P (s0:C5 D61.ask.bl) (s:C2R.T):D61.po E0 (C1h c20 c116) (C6F gl0) s0 0 (C2R.mk' s)=A9Z gl0 c20 c116 s.1.1 s.1.2.1 s.1.2.2.1 s.1.2.2.2.1 s.2.1:=by kernel_rfl
noncomputable def B61 (x0:TP) (x1:TF) (x2:TP):Option R61:=gl0 x1 x2 ([]:List TQ) (wrap64 ((x1.length:Int)-1)) x0
theorem e61 (s:D61.ask.T):D61.ev E0 (C1h c20 c116) (C6F gl0) s=B61 gl0 s.1.1 s.1.2.1 s.1.2.2.1:=by kernel_rfl
end
noncomputable def D5J (c117:TP→Option A0X):List FE:=[C3r c117]
section
variable (c117:TP→Option A0X)
noncomputable def B62 (x0:TP):Option R62:=if(x0.length:Int)>65 then(some 4)else((c117 x0).bind fun r1=>(some r1))
theorem e62 (s:D62.ask.T):D62.ev E0 (D5J c117) [] s=B62 c117 s.1.1:=by kernel_rfl
end
noncomputable def D6V (c12:TP→(List TF)→Option R12) (c14:TP→TF→Option v6) (c16:Option R16) (c18:TP→TP→Option s8) (c34:(List Int)→Option R34) (c38Values1:TF→Int→Int→(TP×TF×TP×Unit)→Option B0X) (c38Values2:TF→Int→Int→(TP×TF×TP×Unit)→Option B2V) (c50:TP→TF→TP→Option R50) (c52:TP→TF→TP→Option R52) (c54:TP→TP→Option R54) (c55:TP→TP→Option R55) (c56:TP→TF→TP→Option R56) (c61:TP→TF→TP→Option R61) (c62:TP→Option R62):List FE:=[D3b c12,B6u c14,D4Z c16,C0t c18,D6L c34,D2I c38Values1,D9Z c38Values2,D0o c50,D6Z c52,D7z c54,B6a c55,D2F c56,D7L c61,D8M c62]
section
variable (c12:TP→(List TF)→Option R12) (c14:TP→TF→Option v6) (c16:Option R16) (c18:TP→TP→Option s8) (c34:(List Int)→Option R34) (c38Values1:TF→Int→Int→(TP×TF×TP×Unit)→Option B0X) (c38Values2:TF→Int→Int→(TP×TF×TP×Unit)→Option B2V) (c50:TP→TF→TP→Option R50) (c52:TP→TF→TP→Option R52) (c54:TP→TP→Option R54) (c55:TP→TP→Option R55) (c56:TP→TF→TP→Option R56) (c61:TP→TF→TP→Option R61) (c62:TP→Option R62)
noncomputable def B9 (x0:TP) (x1:TF) (x2:TP):Option R9:=(c12 x0 ([x1]:List TF)).bind fun r1=>(B3 (r1) ((c16).bind fun r2=>(some r2)) ((c54 x0 x2).bind fun r3=>(B3 (r3) ((c16).bind fun r4=>(some r4)) ((c14 x0 x1).bind fun r5=>((c55 x0 x2).bind fun r6=>((c34 ([r5,r6]:List Int)).bind fun r7=>((c52 x0 x1 x2).bind fun r8=>((c50 x0 x1 x2).bind fun r9=>((c56 x0 x1 x2).bind fun r10=>((c38Values1 r9.1 r9.2 r7 (x0,x1,x2,())).bind fun r11=>(B3 ((!r11)) (some false) ((c38Values2 r10.1 r10.2 r7 (x0,x1,x2,())).bind fun r12=>(B3 ((!r12)) (some false) (if r7≠0 then(if r8.2=r7 then(if(r8.1.length:Int)=0 then((c16).bind fun r13=>(some r13))else(some false))else(some false))else((c61 x0 x1 x2).bind fun r14=>((c62 r14).bind fun r15=>(if r15≠0 then((c62 r14).bind fun r16=>(if r8.2=r16 then(if(r8.1.length:Int)=0 then((c16).bind fun r17=>(some r17))else(some false))else(some false)))else(if r8.2=0 then((c18 r8.1 r14).bind fun r18=>(B3 (r18) ((c16).bind fun r19=>(some r19)) (some false)))else(some false)))))))))))))))))))
theorem e9 (s:D9.ask.T):D9.ev E0 (D6V c12 c14 c16 c18 c34 c38Values1 c38Values2 c50 c52 c54 c55 c56 c61 c62) [] s=B9 c12 c14 c16 c18 c34 c38Values1 c38Values2 c50 c52 c54 c55 c56 c61 c62 s.1.1 s.1.2.1 s.1.2.2.1:=by kernel_rfl
end
end Go.Proofs.YtijohnkgomcdbaaGreatV
namespace Go.Proofs.YtijohnkgomcdbaaGreatE
open Go.RowKit Go.Proofs.YtijohnkgomcdbaaGreatW.PrintWords Go.Proofs.YtijohnkgomcdbaaGreatW.PrintLast Go.Proofs.YtijohnkgomcdbaaGreatW.PrintMore
section
variable {α β:Type}
theorem A0.iteL {p:Prop} [Decidable p] {a b t:Option α} (h1:p→A0 a t) (h2:¬p→A0 b t):A0 (if p then a else b) t:=by
 by_cases h:p
 ·rw [if_pos h];exact h1 h
 ·rw [if_neg h];exact h2 h
theorem A0.bindL {x:Option β} {f:β→Option α} {t:Option α} (h:∀v,x=some v→A0 (f v) t):A0 (x.bind f) t:=by
 cases hx:x with
 |none=>intro r hr;cases hr
 |some v=>exact h v hx
theorem A0.bindK {x:Option β} {v:β} {f:β→Option α} {t:Option α} (hx:x=some v) (h:A0 (f v) t):A0 (x.bind f) t:=by rw [hx];exact h
theorem A0.posL {p:Prop} [Decidable p] {t a b:Option α} (hp:p) (h:A0 a t):A0 (if p then a else b) t:=by rw [if_pos hp];exact h
theorem A0.negL {p:Prop} [Decidable p] {t a b:Option α} (hp:¬p) (h:A0 b t):A0 (if p then a else b) t:=by rw [if_neg hp];exact h
theorem A0.posR {p:Prop} [Decidable p] {t a b:Option α} (hp:p) (h:A0 t a):A0 t (if p then a else b):=by rw [if_pos hp];exact h
theorem A0.negR {p:Prop} [Decidable p] {t a b:Option α} (hp:¬p) (h:A0 t b):A0 t (if p then a else b):=by rw [if_neg hp];exact h
theorem A0.nnegR {p:Prop} [Decidable p] {t a b:Option α} (hp:p) (h:A0 t b):A0 t (if¬p then a else b):=by rw [if_neg (fun q=>q hp)];exact h
theorem A0.bindR {x:Option β} {v:β} {f:β→Option α} {t:Option α} (hx:x=some v) (h:A0 t (f v)):A0 t (x.bind f):=by rw [hx];exact h
theorem A0.ctR {b:Bool} {t x y:Option α} (hp:b=true) (h:A0 t x):A0 t (B3 b x y):=by rw [hp];exact h
theorem A0.cfR {b:Bool} {t x y:Option α} (hp:¬b=true) (h:A0 t y):A0 t (B3 b x y):=by
 rw [Bool.eq_false_iff.2 hp];exact h
theorem I0:ByteArray.empty=⟨#[]⟩:=id rfl
theorem H3 (x:Int):IntKind.u64.wrap (x%256)=x%256:=by
 show x%256%18446744073709551616=x%256
 omega
theorem G9 (b:Bool):(b=false)=¬(b=true):=by cases b<;>simp
theorem G8 {p q:Prop} [Decidable (p∧q)] [Decidable p] [Decidable q] (a b:α):(if p∧q then a else b)=if p then(if q then a else b)else b:=by
 by_cases h:p<;>by_cases k:q<;>simp [h,k]
theorem G6 {p q:Prop} [Decidable (p∨q)] [Decidable p] [Decidable q] (a b:α):(if p∨q then a else b)=if p then a else(if q then a else b):=by
 by_cases h:p<;>by_cases k:q<;>simp [h,k]
theorem t7 {τ:Type} (l:List τ) (i h:Int):slice_ l i h=(l.take h.toNat).drop i.toNat:=id rfl
theorem F6 (a:β) (f:β→Option α):(some a).bind f=f a:=id rfl
theorem m4 {γ:Type} (x:Option γ) (f:γ→Option β) (g:β→Option α):(x.bind f).bind g=x.bind fun y=>(f y).bind g:=by cases x<;>rfl
theorem W8 {p:Prop} [Decidable p] (x y:Option β) (f:β→Option α):(if p then x else y).bind f=if p then x.bind f else y.bind f:=by by_cases h:p<;>simp [h]
theorem H4 (l:List UInt8):l.isEmpty=(l==[]):=by cases l<;>rfl
theorem H7 (x:Int):IntKind.u8.wrap x=x%256:=id rfl
theorem H5 (a:Array UInt8):(⟨a⟩:ByteArray).toList=a.toList:=ByteArray.toList_eq _
theorem l7 (b:Bool) (x y:Option α):B3 b x y=if b=true then x else y:=by cases b<;>rfl
theorem H2 (x y:Int):(x==y)=decide (x=y):=id rfl
end
end Go.Proofs.YtijohnkgomcdbaaGreatE
