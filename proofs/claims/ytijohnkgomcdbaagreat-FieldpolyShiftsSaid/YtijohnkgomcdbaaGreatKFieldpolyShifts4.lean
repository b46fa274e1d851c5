/- Part of the proof of the statement FieldpolyShifts: lemmas on the model's steps, Lean functions that say what the program's functions compute, and proofs that the calls do just that. No hypothesis is added. -/
import Derived.Test.YtijohnkgomcdbaaGreatKFieldpolyShifts3
set_option linter.all false
set_option maxRecDepth 100000
namespace Go.Proofs.YtijohnkgomcdbaaGreatV
open Go Go.RowKit YtijohnkgomcdbaaGreatE YtijohnkgomcdbaaGreatW.PrintWords YtijohnkgomcdbaaGreatW.PrintLast YtijohnkgomcdbaaGreatW.PrintMore
noncomputable def D98:FD:=⟨98,Tryz.f98,23,⟨[(3,[(3, .any),(5, .own tQ),(8, .any),(9, .any),(10, .any)])],[],[]⟩,⟨[(0, .d (.li tQ)),(1, .d tQ)],[]⟩,⟨[(0, .d (.li tQ))],[]⟩,[.d (.li tQ)],R98,fun o=>((o,()),()),fun s=>s.1.1⟩
noncomputable def D6s (F:TP→TQ→Option R98):FE:=D98.fe fun s=>F s.1.1 s.1.2.1
abbrev R99:Type:=TQ
noncomputable def D99:FD:=⟨99,Tryz.f99,9,⟨[],[],[]⟩,⟨[(0, .d tQ),(1, .d tQ)],[]⟩,⟨[(0, .d tQ)],[]⟩,[.d tQ],R99,fun o=>(((o.1,o.2),()),()),fun s=>(s.1.1.1,s.1.1.2)⟩
noncomputable def D4y (F:TQ→TQ→Option R99):FE:=D99.fe fun s=>F s.1.1 s.1.2.1
abbrev A6E:Type:=TQ
noncomputable def B8r:FD:=⟨101,Tryz.f101,38,⟨[],[],[]⟩,⟨[(0, .d tQ),(1, .d tQ)],[]⟩,⟨[(0, .d tQ)],[]⟩,[.d tQ],A6E,fun o=>(((o.1,o.2),()),()),fun s=>(s.1.1.1,s.1.1.2)⟩
noncomputable def C0U (F:TQ→TQ→Option A6E):FE:=B8r.fe fun s=>F s.1.1 s.1.2.1
abbrev B0a:Type:=TQ
noncomputable def B7E:FD:=⟨102,Tryz.f102,14,⟨[],[],[]⟩,⟨[(0, .d (.li tQ)),(1, .d (.it .i64))],[]⟩,⟨[(0, .d tQ)],[]⟩,[.d tQ],B0a,fun o=>(((o.1,o.2),()),()),fun s=>(s.1.1.1,s.1.1.2)⟩
noncomputable def D7A (F:TP→Int→Option B0a):FE:=B7E.fe fun s=>F s.1.1 s.1.2.1
abbrev A2N:Type:=TF
noncomputable def B0N:FD:=⟨104,Tryz.f104,24,⟨[(2,[(0, .any),(3, .any)])],[],[]⟩,⟨[(0, .d (.li (.li tQ)))],[]⟩,⟨[(0, .d (.li (.li tQ)))],[]⟩,[.d (.li (.li tQ))],A2N,fun o=>((o,()),()),fun s=>s.1.1⟩
noncomputable def D3H (F:TF→Option A2N):FE:=B0N.fe fun s=>F s.1.1
abbrev A1K:Type:=(TP×Bool)
noncomputable def B1n:FD:=⟨106,Tryz.f106,46,⟨[(4,[(0, .any),(6, .any),(7, .any),(8, .val (.li tQ)),(9, .any)])],[],[]⟩,⟨[(0, .d (.li tQ)),(1, .d (.li tQ))],[]⟩,⟨[(0, .d (.li tQ)),(1, .d .bo)],[]⟩,[.d (.li tQ), .d .bo],A1K,fun o=>((o.1,o.2,()),()),fun s=>(s.1.1,s.1.2.1)⟩
noncomputable def C7M (F:TP→TP→Option A1K):FE:=B1n.fe fun s=>F s.1.1 s.1.2.1
abbrev d6:Type:=(TF×TF)
noncomputable def A5g:FD:=⟨107,Tryz.f107,92,⟨[(7,[(2, .any),(3, .any),(4, .any),(10, .any),(11, .any),(12, .any),(13, .any)]),(13,[(2, .any),(3, .any),(4, .any),(10, .any),(11, .any),(12, .any),(13, .any),(14, .any),(60, .any),(61, .any)])],[],[]⟩,⟨[(0, .d (.ag (.li tQ))),(1, .d (.li (.li tQ))),(2, .d (.li (.li tQ))),(3, .d (.li tQ))],[]⟩,⟨[(0, .d (.li (.li tQ))),(1, .d (.li (.li tQ)))],[]⟩,[.d (.li (.li tQ)), .d (.li (.li tQ))],d6,fun o=>((o.1,o.2,()),()),fun s=>(s.1.1,s.1.2.1)⟩
noncomputable def C3q (F:TP→TF→TF→TP→Option d6):FE:=A5g.fe fun s=>F s.1.1 s.1.2.1 s.1.2.2.1 s.1.2.2.2.1
abbrev A1U:Type:=Bool
noncomputable def B7v:FD:=⟨108,Tryz.f108,10,⟨[],[],[]⟩,⟨[(0, .d (.li (.li tQ)))],[]⟩,⟨[(0, .d .bo)],[]⟩,[.d .bo],A1U,fun o=>((o,()),()),fun s=>s.1.1⟩
noncomputable def B3F (F:TF→Option A1U):FE:=B7v.fe fun s=>F s.1.1
abbrev B0q:Type:=TP
noncomputable def B8m:FD:=⟨109,Tryz.f109,9,⟨[],[],[]⟩,⟨[(0, .d (.ag (.li tQ))),(1, .d (.li tQ))],[]⟩,⟨[(0, .d (.li tQ))],[]⟩,[.d (.li tQ)],B0q,fun o=>((o,()),()),fun s=>s.1.1⟩
noncomputable def D6V (F:TP→TP→Option B0q):FE:=B8m.fe fun s=>F s.1.1 s.1.2.1
abbrev A9l:Type:=(TF×Bool)
noncomputable def C0F:FD:=⟨110,Tryz.f110,29,⟨[],[],[]⟩,⟨[(0, .d (.ag (.li tQ))),(1, .d (.li (.li tQ)))],[]⟩,⟨[(0, .d (.li (.li tQ))),(1, .d .bo)],[]⟩,[.d (.li (.li tQ)), .d .bo],A9l,fun o=>((o.1,o.2,()),()),fun s=>(s.1.1,s.1.2.1)⟩
noncomputable def D2V (F:TP→TF→Option A9l):FE:=C0F.fe fun s=>F s.1.1 s.1.2.1
abbrev B0H:Type:=(TF×Int)
noncomputable def B5y:FD:=⟨111,Tryz.f111,10,⟨[],[],[]⟩,⟨[(0, .cl 112 [(.li (.li tQ))])],[]⟩,⟨[(0, .d (.li (.li tQ))),(1, .d (.it .i64))],[]⟩,[.d (.li (.li tQ)), .d (.it .i64)],B0H,fun o=>((o.1,o.2,()),()),fun s=>(s.1.1,s.1.2.1)⟩
noncomputable def D7F (F:(TF×Unit)→Option B0H):FE:=B5y.fe fun s=>F s.1.1
abbrev B1v:Type:=(TF×Int)
noncomputable def B6u:FD:=⟨111,Tryz.f111,10,⟨[],[],[]⟩,⟨[(0, .cl 129 [(.ag (.li tQ)),(.li (.li tQ)),(.li (.li tQ))])],[]⟩,⟨[(0, .d (.li (.li tQ))),(1, .d (.it .i64))],[]⟩,[.d (.li (.li tQ)), .d (.it .i64)],B1v,fun o=>((o.1,o.2,()),()),fun s=>(s.1.1,s.1.2.1)⟩
noncomputable def D6Y (F:(TP×TF×TF×Unit)→Option B1v):FE:=B6u.fe fun s=>F s.1.1
abbrev B2L:Type:=(TF×Int)
noncomputable def B7P:FD:=⟨111,Tryz.f111,10,⟨[],[],[]⟩,⟨[(0, .cl 125 [(.li tQ),(.li (.li tQ)),(.ag (.li tQ))])],[]⟩,⟨[(0, .d (.li (.li tQ))),(1, .d (.it .i64))],[]⟩,[.d (.li (.li tQ)), .d (.it .i64)],B2L,fun o=>((o.1,o.2,()),()),fun s=>(s.1.1,s.1.2.1)⟩
noncomputable def D5e (F:(TP×TF×TP×Unit)→Option B2L):FE:=B7P.fe fun s=>F s.1.1
abbrev A9f:Type:=TF
noncomputable def B7I:FD:=⟨112,Tryz.f112,3,⟨[],[],[]⟩,⟨[(0, .pv (.li (.li tQ)))],[]⟩,⟨[(0, .d (.li (.li tQ)))],[]⟩,[.d (.li (.li tQ))],A9f,fun o=>((o,()),()),fun s=>s.1.1⟩
noncomputable def D6v (F:TF→Option A9f):FE:=B7I.fe fun s=>F s.1.1
abbrev A3o:Type:=TQ
noncomputable def B5U:FD:=⟨118,Tryz.f118,30,⟨[],[],[]⟩,⟨[(0, .d tQ),(1, .d tQ)],[]⟩,⟨[(0, .d tQ)],[]⟩,[.d tQ],A3o,fun o=>(((o.1,o.2),()),()),fun s=>(s.1.1.1,s.1.1.2)⟩
noncomputable def B6W (F:TQ→TQ→Option A3o):FE:=B5U.fe fun s=>F s.1.1 s.1.2.1
abbrev A9g:Type:=Int
noncomputable def B5t:FD:=⟨119,Tryz.f119,33,⟨[],[],[]⟩,⟨[(0, .d (.ag (.li tQ)))],[]⟩,⟨[(0, .d (.it .i64))],[]⟩,[.d (.it .i64)],A9g,fun o=>((o,()),()),fun s=>s.1.1⟩
noncomputable def D1A (F:TP→Option A9g):FE:=B5t.fe fun s=>F s.1.1
abbrev A0y:Type:=Int
noncomputable def B1R:FD:=⟨120,Tryz.f120,33,⟨[(4,[(0, .any),(9, .any),(10, .any),(11, .any)])],[],[]⟩,⟨[(0, .d (.li tQ))],[]⟩,⟨[(0, .d (.it .i64))],[]⟩,[.d (.it .i64)],A0y,fun o=>((o,()),()),fun s=>s.1.1⟩
noncomputable def C0f (F:TP→Option A0y):FE:=B1R.fe fun s=>F s.1.1
abbrev W9:Type:=TF
noncomputable def A9o:FD:=⟨122,Tryz.f122,23,⟨[(2,[(0, .any),(3, .any)])],[],[]⟩,⟨[(0, .d (.li (.li tQ)))],[]⟩,⟨[(0, .d (.li (.li tQ)))],[]⟩,[.d (.li (.li tQ))],W9,fun o=>((o,()),()),fun s=>s.1.1⟩
noncomputable def B0l (F:TF→Option W9):FE:=A9o.fe fun s=>F s.1.1
abbrev A6e:Type:=Int
noncomputable def B6i:FD:=⟨123,Tryz.f123,6,⟨[],[],[]⟩,⟨[(0, .d tQ)],[]⟩,⟨[(0, .d (.it .i64))],[]⟩,[.d (.it .i64)],A6e,fun o=>((o,()),()),fun s=>s.1.1⟩
noncomputable def C5H (F:TQ→Option A6e):FE:=B6i.fe fun s=>F s.1.1
abbrev A3f:Type:=Int
noncomputable def B6q:FD:=⟨124,Tryz.f124,17,⟨[],[],[]⟩,⟨[(0, .d (.ag (.li tQ))),(1, .d (.li tQ))],[]⟩,⟨[(0, .d (.it .i64))],[]⟩,[.d (.it .i64)],A3f,fun o=>((o,()),()),fun s=>s.1.1⟩
noncomputable def B8a (F:TP→TP→Option A3f):FE:=B6q.fe fun s=>F s.1.1 s.1.2.1
abbrev A2R:Type:=TF
noncomputable def B2H:FD:=⟨125,Tryz.f125,31,⟨[(4,[(1, .any),(2, .any),(4, .val (.li (.li tQ))),(5, .any),(6, .any)])],[],[]⟩,⟨[(0, .pv (.li tQ)),(1, .pv (.li (.li tQ))),(2, .pv (.ag (.li tQ)))],[]⟩,⟨[(0, .d (.li (.li tQ)))],[]⟩,[.d (.li (.li tQ))],A2R,fun o=>((o,()),()),fun s=>s.1.1⟩
noncomputable def D2r (F:TP→TF→TP→Option A2R):FE:=B2H.fe fun s=>F s.1.1 s.1.2.1 s.1.2.2.1
abbrev A2r:Type:=TF
noncomputable def A9k:FD:=⟨126,Tryz.f126,31,⟨[(3,[(0, .any),(1, .any),(5, .any),(14, .any),(15, .any)])],[],[]⟩,⟨[(0, .d (.li (.li tQ))),(1, .d (.li (.li tQ)))],[]⟩,⟨[(0, .d (.li (.li tQ)))],[]⟩,[.d (.li (.li tQ))],A2r,fun o=>((o,()),()),fun s=>s.1.1⟩
noncomputable def D3A (F:TF→TF→Option A2r):FE:=A9k.fe fun s=>F s.1.1 s.1.2.1
abbrev T6:Type:=TF
noncomputable def A3Y:FD:=⟨127,Tryz.f127,77,⟨[(5,[(2, .any),(3, .any),(7, .any),(28, .any),(29, .any),(30, .any)]),(8,[(2, .any),(3, .any),(7, .any),(8, .any),(9, .any),(28, .any),(29, .any),(30, .any),(35, .any),(36, .any),(37, .any)]),(14,[(3, .any),(7, .any),(60, .any),(61, .any)])],[],[]⟩,⟨[(0, .d (.ag (.li tQ))),(1, .d (.li (.li tQ))),(2, .d (.li (.li tQ)))],[]⟩,⟨[(0, .d (.li (.li tQ)))],[]⟩,[.d (.li (.li tQ))],T6,fun o=>((o,()),()),fun s=>s.1.1⟩
noncomputable def C3X (F:TP→TF→TF→Option T6):FE:=A3Y.fe fun s=>F s.1.1 s.1.2.1 s.1.2.2.1
abbrev A6O:Type:=Bool
noncomputable def B8k:FD:=⟨128,Tryz.f128,5,⟨[],[],[]⟩,⟨[(0, .d (.li (.li tQ)))],[]⟩,⟨[(0, .d .bo)],[]⟩,[.d .bo],A6O,fun o=>((o,()),()),fun s=>s.1.1⟩
noncomputable def C3J (F:TF→Option A6O):FE:=B8k.fe fun s=>F s.1.1
abbrev B1p:Type:=TF
noncomputable def B9L:FD:=⟨129,Tryz.f129,8,⟨[],[],[]⟩,⟨[(0, .pv (.ag (.li tQ))),(1, .pv (.li (.li tQ))),(2, .pv (.li (.li tQ)))],[]⟩,⟨[(0, .d (.li (.li tQ)))],[]⟩,[.d (.li (.li tQ))],B1p,fun o=>((o,()),()),fun s=>s.1.1⟩
noncomputable def D1t (F:TP→TF→TF→Option B1p):FE:=B9L.fe fun s=>F s.1.1 s.1.2.1 s.1.2.2.1
abbrev A2s:Type:=TF
noncomputable def B1V:FD:=⟨131,Tryz.f131,31,⟨[(3,[(2, .any),(3, .any),(7, .any),(13, .any),(14, .any),(15, .any)])],[],[]⟩,⟨[(0, .d (.ag (.li tQ))),(1, .d (.li (.li tQ))),(2, .d (.li tQ))],[]⟩,⟨[(0, .d (.li (.li tQ)))],[]⟩,[.d (.li (.li tQ))],A2s,fun o=>((o,()),()),fun s=>s.1.1⟩
noncomputable def D0w (F:TP→TF→TP→Option A2s):FE:=B1V.fe fun s=>F s.1.1 s.1.2.1 s.1.2.2.1
abbrev B1B:Type:=Int
noncomputable def B6d:FD:=⟨135,Tryz.f135,28,⟨[],[],[]⟩,⟨[(0, .d tQ)],[]⟩,⟨[(0, .d (.it .i64))],[]⟩,[.d (.it .i64)],B1B,fun o=>((o,()),()),fun s=>s.1.1⟩
noncomputable def D4d (F:TQ→Option B1B):FE:=B6d.fe fun s=>F s.1.1
abbrev A1n:Type:=TP
noncomputable def B0Z:FD:=⟨137,Tryz.f137,27,⟨[(3,[(3, .any),(5, .any),(11, .any),(12, .any),(13, .any)])],[],[]⟩,⟨[(0, .d (.li tQ)),(1, .d tQ)],[]⟩,⟨[(0, .d (.li tQ))],[]⟩,[.d (.li tQ)],A1n,fun o=>((o,()),()),fun s=>s.1.1⟩
noncomputable def D8N (F:TP→TQ→Option A1n):FE:=B0Z.fe fun s=>F s.1.1 s.1.2.1
abbrev A2p:Type:=Int
noncomputable def B0v:FD:=⟨138,Tryz.f138,37,⟨[(4,[(1, .any),(2, .any),(11, .any),(12, .any),(13, .any)])],[],[]⟩,⟨[(0, .d (.ag (.li tQ))),(1, .d (.li (.li tQ)))],[]⟩,⟨[(0, .d (.it .i64))],[]⟩,[.d (.it .i64)],A2p,fun o=>((o,()),()),fun s=>s.1.1⟩
noncomputable def D7f (F:TP→TF→Option A2p):FE:=B0v.fe fun s=>F s.1.1 s.1.2.1
abbrev A9Q:Type:=TI
noncomputable def B9W:FD:=⟨141,Tryz.f141,16,⟨[],[],[]⟩,⟨[(0, .d (.it .i64))],[]⟩,⟨[(0, .d (.ag (.pr .bo .st)))],[]⟩,[.d (.ag (.pr .bo .st))],A9Q,fun o=>(((o.1,o.2),()),()),fun s=>(s.1.1.1,s.1.1.2)⟩
noncomputable def D0O (F:Int→Option A9Q):FE:=B9W.fe fun s=>F s.1.1
abbrev w8:Type:=TQ
noncomputable def B5Q:FD:=⟨142,Tryz.f142,31,⟨[],[],[]⟩,⟨[(0, .d tQ),(1, .d tQ)],[]⟩,⟨[(0, .d tQ)],[]⟩,[.d tQ],w8,fun o=>(((o.1,o.2),()),()),fun s=>(s.1.1.1,s.1.1.2)⟩
noncomputable def B0Y (F:TQ→TQ→Option w8):FE:=B5Q.fe fun s=>F s.1.1 s.1.2.1
abbrev A9U:Type:=TQ
noncomputable def B6T:FD:=⟨143,Tryz.f143,14,⟨[],[],[]⟩,⟨[(0, .d tQ),(1, .d (.it .i64))],[]⟩,⟨[(0, .d tQ)],[]⟩,[.d tQ],A9U,fun o=>(((o.1,o.2),()),()),fun s=>(s.1.1.1,s.1.1.2)⟩
noncomputable def D2L (F:TQ→Int→Option A9U):FE:=B6T.fe fun s=>F s.1.1 s.1.2.1
abbrev R9:Type:=(TP×TP)
noncomputable def A3X:FD:=⟨144,Tryz.f144,99,⟨[(7,[(0, .any),(1, .any),(6, .any),(7, .any),(8, .any),(30, .any),(31, .any)]),(13,[(1, .any),(6, .any),(7, .any),(8, .any),(10, .any),(11, .any)]),(19,[(1, .any),(6, .any),(7, .any),(8, .any),(10, .any),(11, .any),(12, .any),(69, .any),(70, .any)])],[],[]⟩,⟨[(0, .d (.li tQ)),(1, .d (.li tQ))],[]⟩,⟨[(0, .d (.li tQ)),(1, .d (.li tQ))],[]⟩,[.d (.li tQ), .d (.li tQ)],R9,fun o=>((o.1,o.2,()),()),fun s=>(s.1.1,s.1.2.1)⟩
noncomputable def B8W (F:TP→TP→Option R9):FE:=A3X.fe fun s=>F s.1.1 s.1.2.1
abbrev A5l:Type:=TQ
noncomputable def B7C:FD:=⟨145,Tryz.f145,9,⟨[],[],[]⟩,⟨[(0, .d tQ)],[]⟩,⟨[(0, .d tQ)],[]⟩,[.d tQ],A5l,fun o=>(((o.1,o.2),()),()),fun s=>(s.1.1.1,s.1.1.2)⟩
noncomputable def C7C (F:TQ→Option A5l):FE:=B7C.fe fun s=>F s.1.1
abbrev A3Q:Type:=TP
noncomputable def B7t:FD:=⟨146,Tryz.f146,12,⟨[],[],[]⟩,⟨[(0, .d (.li tQ)),(1, .d (.li tQ)),(2, .d (.li tQ))],[]⟩,⟨[(0, .d (.li tQ))],[]⟩,[.d (.li tQ)],A3Q,fun o=>((o,()),()),fun s=>s.1.1⟩
noncomputable def B8b (F:TP→TP→TP→Option A3Q):FE:=B7t.fe fun s=>F s.1.1 s.1.2.1 s.1.2.2.1
abbrev A3x:Type:=TQ
noncomputable def B8s:FD:=⟨147,Tryz.f147,13,⟨[],[],[]⟩,⟨[(0, .d tQ)],[]⟩,⟨[(0, .d tQ)],[]⟩,[.d tQ],A3x,fun o=>(((o.1,o.2),()),()),fun s=>(s.1.1.1,s.1.1.2)⟩
noncomputable def B6A (F:TQ→Option A3x):FE:=B8s.fe fun s=>F s.1.1
abbrev A3s:Type:=TQ
noncomputable def B9Q:FD:=⟨148,Tryz.f148,58,⟨[],[],[]⟩,⟨[(0, .d tQ),(1, .d tQ)],[]⟩,⟨[(0, .d tQ)],[]⟩,[.d tQ],A3s,fun o=>(((o.1,o.2),()),()),fun s=>(s.1.1.1,s.1.1.2)⟩
noncomputable def B5g (F:TQ→TQ→Option A3s):FE:=B9Q.fe fun s=>F s.1.1 s.1.2.1
abbrev A3C:Type:=TQ
noncomputable def B9J:FD:=⟨149,Tryz.f149,5,⟨[],[],[]⟩,⟨[(0, .d (.ag (.pr .bo .st)))],[]⟩,⟨[(0, .d tQ)],[]⟩,[.d tQ],A3C,fun o=>(((o.1,o.2),()),()),fun s=>(s.1.1.1,s.1.1.2)⟩
noncomputable def B6J (F:TI→Option A3C):FE:=B9J.fe fun s=>F s.1.1
abbrev B0S:Type:=TI
noncomputable def B8Y:FD:=⟨150,Tryz.f150,14,⟨[],[],[]⟩,⟨[(0, .d (.it .i64))],[]⟩,⟨[(0, .d (.ag (.pr .bo .st)))],[]⟩,[.d (.ag (.pr .bo .st))],B0S,fun o=>(((o.1,o.2),()),()),fun s=>(s.1.1.1,s.1.1.2)⟩
noncomputable def D2x (F:Int→Option B0S):FE:=B8Y.fe fun s=>F s.1.1
abbrev A5X:Type:=TQ
noncomputable def B5k:FD:=⟨151,Tryz.f151,18,⟨[],[],[]⟩,⟨[(0, .d (.li tQ)),(1, .d (.it .i64))],[]⟩,⟨[(0, .d tQ)],[]⟩,[.d tQ],A5X,fun o=>(((o.1,o.2),()),()),fun s=>(s.1.1.1,s.1.1.2)⟩
noncomputable def C2c (F:TP→Int→Option A5X):FE:=B5k.fe fun s=>F s.1.1 s.1.2.1
abbrev A1O:Type:=Bool
noncomputable def B8S:FD:=⟨152,Tryz.f152,7,⟨[],[],[]⟩,⟨[(0, .d tQ)],[]⟩,⟨[(0, .d .bo)],[]⟩,[.d .bo],A1O,fun o=>((o,()),()),fun s=>s.1.1⟩
noncomputable def B2g (F:TQ→Option A1O):FE:=B8S.fe fun s=>F s.1.1
abbrev A9I:Type:=Bool
noncomputable def B6E:FD:=⟨153,Tryz.f153,9,⟨[],[],[]⟩,⟨[(0, .d (.li tQ)),(1, .f (.cl 170 []))],[]⟩,⟨[(0, .d .bo)],[]⟩,[.d .bo],A9I,fun o=>((o,()),()),fun s=>s.1.1⟩
noncomputable def D2n (F:TP→Option A9I):FE:=B6E.fe fun s=>F s.1.1
abbrev A6H:Type:=Bool
noncomputable def B9k:FD:=⟨153,Tryz.f153,9,⟨[],[],[]⟩,⟨[(0, .d (.li tQ)),(1, .f (.cl 154 []))],[]⟩,⟨[(0, .d .bo)],[]⟩,[.d .bo],A6H,fun o=>((o,()),()),fun s=>s.1.1⟩
noncomputable def C8o (F:TP→Option A6H):FE:=B9k.fe fun s=>F s.1.1
abbrev B0g:Type:=Bool
noncomputable def B7h:FD:=⟨154,Tryz.f154,14,⟨[],[],[]⟩,⟨[(0, .d tQ)],[]⟩,⟨[(0, .d .bo)],[]⟩,[.d .bo],B0g,fun o=>((o,()),()),fun s=>s.1.1⟩
noncomputable def D4Q (F:TQ→Option B0g):FE:=B7h.fe fun s=>F s.1.1
abbrev B0J:Type:=TQ
noncomputable def B7k:FD:=⟨157,Tryz.f157,18,⟨[],[],[]⟩,⟨[(0, .d tQ)],[]⟩,⟨[(0, .d tQ)],[]⟩,[.d tQ],B0J,fun o=>(((o.1,o.2),()),()),fun s=>(s.1.1.1,s.1.1.2)⟩
noncomputable def D8B (F:TQ→Option B0J):FE:=B7k.fe fun s=>F s.1.1
abbrev A5r:Type:=TQ
noncomputable def B5b:FD:=⟨159,Tryz.f159,5,⟨[],[],[]⟩,⟨[(0, .d (.ag (.pr .bo .st)))],[]⟩,⟨[(0, .d tQ)],[]⟩,[.d tQ],A5r,fun o=>(((o.1,o.2),()),()),fun s=>(s.1.1.1,s.1.1.2)⟩
noncomputable def C7g (F:TI→Option A5r):FE:=B5b.fe fun s=>F s.1.1
abbrev A9h:Type:=TI
noncomputable def B8U:FD:=⟨160,Tryz.f160,40,⟨[],[],[]⟩,⟨[(0, .d (.ag (.pr .bo .st))),(1, .d (.ag (.pr .bo .st)))],[]⟩,⟨[(0, .d (.ag (.pr .bo .st)))],[]⟩,[.d (.ag (.pr .bo .st))],A9h,fun o=>(((o.1,o.2),()),()),fun s=>(s.1.1.1,s.1.1.2)⟩
noncomputable def D5Y (F:TI→TI→Option A9h):FE:=B8U.fe fun s=>F s.1.1 s.1.2.1
abbrev A6Y:Type:=TI
noncomputable def B6Q:FD:=⟨161,Tryz.f161,16,⟨[],[],[]⟩,⟨[(0, .d (.ag (.pr .bo .st))),(1, .d (.ag (.pr .bo .st)))],[]⟩,⟨[(0, .d (.ag (.pr .bo .st)))],[]⟩,[.d (.ag (.pr .bo .st))],A6Y,fun o=>(((o.1,o.2),()),()),fun s=>(s.1.1.1,s.1.1.2)⟩
noncomputable def C1O (F:TI→TI→Option A6Y):FE:=B6Q.fe fun s=>F s.1.1 s.1.2.1
abbrev A5e:Type:=TI
noncomputable def B6Z:FD:=⟨162,Tryz.f162,6,⟨[],[],[]⟩,⟨[(0, .d tQ)],[]⟩,⟨[(0, .d (.ag (.pr .bo .st)))],[]⟩,[.d (.ag (.pr .bo .st))],A5e,fun o=>(((o.1,o.2),()),()),fun s=>(s.1.1.1,s.1.1.2)⟩
noncomputable def C9n (F:TQ→Option A5e):FE:=B6Z.fe fun s=>F s.1.1
abbrev A6A:Type:=TQ
noncomputable def B5u:FD:=⟨163,Tryz.f163,42,⟨[],[],[]⟩,⟨[(0, .d (.ag (.pr .bo .st))),(1, .d (.ag (.pr .bo .st)))],[]⟩,⟨[(0, .d tQ)],[]⟩,[.d tQ],A6A,fun o=>(((o.1,o.2),()),()),fun s=>(s.1.1.1,s.1.1.2)⟩
noncomputable def C3G (F:TI→TI→Option A6A):FE:=B5u.fe fun s=>F s.1.1 s.1.2.1
abbrev A3q:Type:=TP
noncomputable def B6y:FD:=⟨165,Tryz.f165,14,⟨[],[],[]⟩,⟨[(0, .d (.li tQ)),(1, .d (.li tQ))],[]⟩,⟨[(0, .d (.li tQ))],[]⟩,[.d (.li tQ)],A3q,fun o=>((o,()),()),fun s=>s.1.1⟩
noncomputable def B5r (F:TP→TP→Option A3q):FE:=B6y.fe fun s=>F s.1.1 s.1.2.1
abbrev A0M:Type:=TP
noncomputable def B1L:FD:=⟨166,Tryz.f166,31,⟨[(3,[(0, .any),(1, .any),(5, .any),(14, .any),(15, .any)])],[],[]⟩,⟨[(0, .d (.li tQ)),(1, .d (.li tQ))],[]⟩,⟨[(0, .d (.li tQ))],[]⟩,[.d (.li tQ)],A0M,fun o=>((o,()),()),fun s=>s.1.1⟩
noncomputable def C0W (F:TP→TP→Option A0M):FE:=B1L.fe fun s=>F s.1.1 s.1.2.1
abbrev B1w:Type:=TP
noncomputable def B8w:FD:=⟨167,Tryz.f167,14,⟨[],[],[]⟩,⟨[(0, .d (.li tQ)),(1, .d (.li tQ))],[]⟩,⟨[(0, .d (.li tQ))],[]⟩,[.d (.li tQ)],B1w,fun o=>((o,()),()),fun s=>s.1.1⟩
noncomputable def D3h (F:TP→TP→Option B1w):FE:=B8w.fe fun s=>F s.1.1 s.1.2.1
abbrev B1C:Type:=Bool
noncomputable def B9x:FD:=⟨170,Tryz.f170,6,⟨[],[],[]⟩,⟨[(0, .d tQ)],[]⟩,⟨[(0, .d .bo)],[]⟩,[.d .bo],B1C,fun o=>((o,()),()),fun s=>s.1.1⟩
noncomputable def D1y (F:TQ→Option B1C):FE:=B9x.fe fun s=>F s.1.1
abbrev B1Z:Type:=Bool
noncomputable def B5V:FD:=⟨171,Tryz.f171,6,⟨[],[],[]⟩,⟨[(0, .d tQ)],[]⟩,⟨[(0, .d .bo)],[]⟩,[.d .bo],B1Z,fun o=>((o,()),()),fun s=>s.1.1⟩
noncomputable def D3j (F:TQ→Option B1Z):FE:=B5V.fe fun s=>F s.1.1
abbrev B0t:Type:=Int
noncomputable def B7s:FD:=⟨172,Tryz.f172,44,⟨[],[],[]⟩,⟨[(0, .d tQ)],[]⟩,⟨[(0, .d (.it .i64))],[]⟩,[.d (.it .i64)],B0t,fun o=>((o,()),()),fun s=>s.1.1⟩
noncomputable def D0G (F:TQ→Option B0t):FE:=B7s.fe fun s=>F s.1.1
abbrev B0C:Type:=Int
noncomputable def B8z:FD:=⟨173,Tryz.f173,10,⟨[],[],[]⟩,⟨[(0, .d (.ag (.pr .bo .st)))],[]⟩,⟨[(0, .d (.it .i64))],[]⟩,[.d (.it .i64)],B0C,fun o=>((o,()),()),fun s=>s.1.1⟩
noncomputable def D3z (F:TI→Option B0C):FE:=B8z.fe fun s=>F s.1.1
abbrev A9N:Type:=TP
noncomputable def B6b:FD:=⟨174,Tryz.f174,13,⟨[],[],[]⟩,⟨[(0, .d (.li (.li tQ))),(1, .d (.it .i64))],[]⟩,⟨[(0, .d (.li tQ))],[]⟩,[.d (.li tQ)],A9N,fun o=>((o,()),()),fun s=>s.1.1⟩
noncomputable def D4J (F:TF→Int→Option A9N):FE:=B6b.fe fun s=>F s.1.1 s.1.2.1
abbrev B2C:Type:=Bool
noncomputable def B9d:FD:=⟨175,Tryz.f175,9,⟨[],[],[]⟩,⟨[(0, .d (.li (.li tQ))),(1, .f (.cl 176 []))],[]⟩,⟨[(0, .d .bo)],[]⟩,[.d .bo],B2C,fun o=>((o,()),()),fun s=>s.1.1⟩
noncomputable def D7j (F:TF→Option B2C):FE:=B9d.fe fun s=>F s.1.1
abbrev B1g:Type:=Bool
noncomputable def B9r:FD:=⟨176,Tryz.f176,5,⟨[],[],[]⟩,⟨[(0, .d (.li tQ))],[]⟩,⟨[(0, .d .bo)],[]⟩,[.d .bo],B1g,fun o=>((o,()),()),fun s=>s.1.1⟩
noncomputable def D6p (F:TP→Option B1g):FE:=B9r.fe fun s=>F s.1.1
abbrev B1s:Type:=Bool
noncomputable def B8B:FD:=⟨177,Tryz.f177,16,⟨[],[],[]⟩,⟨[(0, .d (.ag (.pr .bo .st)))],[]⟩,⟨[(0, .d .bo)],[]⟩,[.d .bo],B1s,fun o=>((o,()),()),fun s=>s.1.1⟩
noncomputable def D2p (F:TI→Option B1s):FE:=B8B.fe fun s=>F s.1.1
abbrev A5Z:Type:=Bool
noncomputable def B6O:FD:=⟨178,Tryz.f178,10,⟨[],[],[]⟩,⟨[(0, .d .st)],[]⟩,⟨[(0, .d .bo)],[]⟩,[.d .bo],A5Z,fun o=>((o,()),()),fun s=>s.1.1⟩
noncomputable def C3E (F:ByteArray→Option A5Z):FE:=B6O.fe fun s=>F s.1.1
abbrev B1G:Type:=Int
noncomputable def B9A:FD:=⟨179,Tryz.f179,10,⟨[],[],[]⟩,⟨[(0, .d tQ)],[]⟩,⟨[(0, .d (.it .i64))],[]⟩,[.d (.it .i64)],B1G,fun o=>((o,()),()),fun s=>s.1.1⟩
noncomputable def D5W (F:TQ→Option B1G):FE:=B9A.fe fun s=>F s.1.1
abbrev A0w:Type:=ByteArray
noncomputable def B0w:FD:=⟨180,Tryz.f180,18,⟨[(1,[(0, .any),(1, .any)])],[],[]⟩,⟨[(0, .d .st),(1, .d .st)],[]⟩,⟨[(0, .d .st)],[]⟩,[.d .st],A0w,fun o=>((o,()),()),fun s=>s.1.1⟩
noncomputable def C7S (F:ByteArray→ByteArray→Option A0w):FE:=B0w.fe fun s=>F s.1.1 s.1.2.1
abbrev B1Y:Type:=ByteArray
noncomputable def B5p:FD:=⟨183,Tryz.f183,9,⟨[],[],[]⟩,⟨[(0, .d (.it .u64))],[]⟩,⟨[(0, .d .st)],[]⟩,[.d .st],B1Y,fun o=>((o,()),()),fun s=>s.1.1⟩
noncomputable def D2S (F:Int→Option B1Y):FE:=B5p.fe fun s=>F s.1.1
abbrev A9m:Type:=TI
noncomputable def B6Y:FD:=⟨184,Tryz.f184,16,⟨[],[],[]⟩,⟨[(0, .d (.ag (.pr .bo .st))),(1, .d (.ag (.pr .bo .st)))],[]⟩,⟨[(0, .d (.ag (.pr .bo .st)))],[]⟩,[.d (.ag (.pr .bo .st))],A9m,fun o=>(((o.1,o.2),()),()),fun s=>(s.1.1.1,s.1.1.2)⟩
noncomputable def D4f (F:TI→TI→Option A9m):FE:=B6Y.fe fun s=>F s.1.1 s.1.2.1
abbrev A5n:Type:=TQ
noncomputable def B7D:FD:=⟨185,Tryz.f185,40,⟨[],[],[]⟩,⟨[(0, .d (.ag (.pr .bo .st))),(1, .d (.ag (.pr .bo .st)))],[]⟩,⟨[(0, .d tQ)],[]⟩,[.d tQ],A5n,fun o=>(((o.1,o.2),()),()),fun s=>(s.1.1.1,s.1.1.2)⟩
noncomputable def C9t (F:TI→TI→Option A5n):FE:=B7D.fe fun s=>F s.1.1 s.1.2.1
abbrev A3P:Type:=ByteArray
noncomputable def B7S:FD:=⟨186,Tryz.f186,11,⟨[],[],[]⟩,⟨[(0, .d .st),(1, .d .st)],[]⟩,⟨[(0, .d .st)],[]⟩,[.d .st],A3P,fun o=>((o,()),()),fun s=>s.1.1⟩
noncomputable def C0H (F:ByteArray→ByteArray→Option A3P):FE:=B7S.fe fun s=>F s.1.1 s.1.2.1
abbrev B1A:Type:=TI
noncomputable def B9j:FD:=⟨187,Tryz.f187,17,⟨[],[],[]⟩,⟨[(0, .d (.ag (.pr .bo .st))),(1, .d (.it .i64))],[]⟩,⟨[(0, .d (.ag (.pr .bo .st)))],[]⟩,[.d (.ag (.pr .bo .st))],B1A,fun o=>(((o.1,o.2),()),()),fun s=>(s.1.1.1,s.1.1.2)⟩
noncomputable def D5E (F:TI→Int→Option B1A):FE:=B9j.fe fun s=>F s.1.1 s.1.2.1
abbrev A0q:Type:=ByteArray
noncomputable def B0A:FD:=⟨188,Tryz.f188,25,⟨[(2,[(1, .any),(5, .val (.li (.it .u64))),(6, .val (.li (.it .u64)))])],[],[]⟩,⟨[(0, .d .st),(1, .d (.it .i64))],[]⟩,⟨[(0, .d .st)],[]⟩,[.d .st],A0q,fun o=>((o,()),()),fun s=>s.1.1⟩
noncomputable def C7x (F:ByteArray→Int→Option A0q):FE:=B0A.fe fun s=>F s.1.1 s.1.2.1
abbrev B2a:Type:=TP
noncomputable def F4h:FD:=⟨189,Tryz.f189,0,⟨[],[],[]⟩,⟨[(0, .d (.li tQ))],[]⟩,⟨[(0, .f (.a (.ref 3000)))],[(3000, .own tQ true)]⟩,[],B2a,fun o=>((),(o,())),fun s=>s.2.1⟩
noncomputable def D2A (F:TP→Option B2a):FE:=F4h.fe fun s=>F s.1.1
abbrev B5c:Type:=TP
noncomputable def B8K:FD:=⟨189,Tryz.f189,8,⟨[],[],[]⟩,⟨[(0, .nv false tQ)],[]⟩,⟨[(0, .f (.a (.ref 3000)))],[(3000, .own tQ true)]⟩,[.own tQ],B5c,fun o=>((),(o,())),fun s=>s.2.1⟩
noncomputable def F2O (F:TP→Option B5c):FE:=B8K.fe fun s=>F s.1.1
abbrev B5F:Type:=TP
noncomputable def B7M:FD:=⟨189,Tryz.f189,8,⟨[],[],[]⟩,⟨[(0, .nv true tQ)],[]⟩,⟨[(0, .f (.a (.ref 3000)))],[(3000, .own tQ true)]⟩,[.own tQ],B5F,fun o=>((),(o,())),fun s=>s.2.1⟩
noncomputable def F5H (F:TP→Option B5F):FE:=B7M.fe fun s=>F s.1.1
abbrev B1T:Type:=TI
noncomputable def B6G:FD:=⟨190,Tryz.f190,9,⟨[],[],[]⟩,⟨[(0, .d (.ag (.pr .bo .st)))],[]⟩,⟨[(0, .d (.ag (.pr .bo .st)))],[]⟩,[.d (.ag (.pr .bo .st))],B1T,fun o=>(((o.1,o.2),()),()),fun s=>(s.1.1.1,s.1.1.2)⟩
noncomputable def D5i (F:TI→Option B1T):FE:=B6G.fe fun s=>F s.1.1
abbrev B1k:Type:=TI
noncomputable def B8t:FD:=⟨191,Tryz.f191,42,⟨[],[],[]⟩,⟨[(0, .d (.ag (.pr .bo .st))),(1, .d (.ag (.pr .bo .st)))],[]⟩,⟨[(0, .d (.ag (.pr .bo .st)))],[]⟩,[.d (.ag (.pr .bo .st))],B1k,fun o=>(((o.1,o.2),()),()),fun s=>(s.1.1.1,s.1.1.2)⟩
noncomputable def D2j (F:TI→TI→Option B1k):FE:=B8t.fe fun s=>F s.1.1 s.1.2.1
abbrev n9:Type:=TI
noncomputable def B8T:FD:=⟨192,Tryz.f192,12,⟨[],[],[]⟩,⟨[(0, .d .bo),(1, .d .st)],[]⟩,⟨[(0, .d (.ag (.pr .bo .st)))],[]⟩,[.d (.ag (.pr .bo .st))],n9,fun o=>(((o.1,o.2),()),()),fun s=>(s.1.1.1,s.1.1.2)⟩
noncomputable def A7g (F:Bool→ByteArray→Option n9):FE:=B8T.fe fun s=>F s.1.1 s.1.2.1
abbrev B1Q:Type:=ByteArray
noncomputable def B8F:FD:=⟨193,Tryz.f193,6,⟨[],[],[]⟩,⟨[(0, .d (.it .u64))],[]⟩,⟨[(0, .d .st)],[]⟩,[.d .st],B1Q,fun o=>((o,()),()),fun s=>s.1.1⟩
noncomputable def D8W (F:Int→Option B1Q):FE:=B8F.fe fun s=>F s.1.1
abbrev A2A:Type:=Int
noncomputable def B1S:FD:=⟨194,Tryz.f194,19,⟨[(2,[(0, .any),(1, .any),(7, .any),(8, .any)])],[],[]⟩,⟨[(0, .d (.li tQ)),(1, .f (.cl 170 []))],[]⟩,⟨[(0, .d (.it .i64))],[]⟩,[.d (.it .i64)],A2A,fun o=>((o,()),()),fun s=>s.1.1⟩
noncomputable def D3Y (F:TP→Option A2A):FE:=B1S.fe fun s=>F s.1.1
abbrev A2x:Type:=Int
noncomputable def A9M:FD:=⟨194,Tryz.f194,19,⟨[(2,[(0, .any),(1, .any),(7, .any),(8, .any)])],[],[]⟩,⟨[(0, .d (.li tQ)),(1, .f (.cl 154 []))],[]⟩,⟨[(0, .d (.it .i64))],[]⟩,[.d (.it .i64)],A2x,fun o=>((o,()),()),fun s=>s.1.1⟩
noncomputable def D7u (F:TP→Option A2x):FE:=A9M.fe fun s=>F s.1.1
abbrev A3H:Type:=TI
noncomputable def B5R:FD:=⟨198,Tryz.f198,12,⟨[],[],[]⟩,⟨[(0, .d .bo),(1, .d .st)],[]⟩,⟨[(0, .d (.ag (.pr .bo .st)))],[]⟩,[.d (.ag (.pr .bo .st))],A3H,fun o=>(((o.1,o.2),()),()),fun s=>(s.1.1.1,s.1.1.2)⟩
noncomputable def B5L (F:Bool→ByteArray→Option A3H):FE:=B5R.fe fun s=>F s.1.1 s.1.2.1
abbrev A2w:Type:=ByteArray
noncomputable def B1t:FD:=⟨199,Tryz.f199,61,⟨[(5,[(5, .any),(6, .any),(7, .own (.it .u64)),(8, .any),(9, .any)])],[],[]⟩,⟨[(0, .d .st),(1, .d .st)],[]⟩,⟨[(0, .d .st)],[]⟩,[.d .st],A2w,fun o=>((o,()),()),fun s=>s.1.1⟩
noncomputable def D5p (F:ByteArray→ByteArray→Option A2w):FE:=B1t.fe fun s=>F s.1.1 s.1.2.1
abbrev A6c:Type:=Int
noncomputable def B8D:FD:=⟨200,Tryz.f200,27,⟨[],[],[]⟩,⟨[(0, .d .st),(1, .d .st)],[]⟩,⟨[(0, .d (.it .i64))],[]⟩,[.d (.it .i64)],A6c,fun o=>((o,()),()),fun s=>s.1.1⟩
noncomputable def C5r (F:ByteArray→ByteArray→Option A6c):FE:=B8D.fe fun s=>F s.1.1 s.1.2.1
abbrev A1y:Type:=ByteArray
noncomputable def B0Q:FD:=⟨201,Tryz.f201,60,⟨[(6,[(5, .any),(6, .any),(7, .any),(8, .any)])],[],[]⟩,⟨[(0, .d .st),(1, .d .st)],[]⟩,⟨[(0, .d .st)],[]⟩,[.d .st],A1y,fun o=>((o,()),()),fun s=>s.1.1⟩
noncomputable def D8D (F:ByteArray→ByteArray→Option A1y):FE:=B0Q.fe fun s=>F s.1.1 s.1.2.1
abbrev q7:Type:=ByteArray
noncomputable def A6n:FD:=⟨202,Tryz.f202,70,⟨[(4,[(5, .any),(6, .any),(7, .any),(8, .any)]),(8,[(5, .any),(6, .any),(7, .any),(8, .any),(9, .any),(10, .any)])],[],[]⟩,⟨[(0, .d .st),(1, .d .st)],[]⟩,⟨[(0, .d .st)],[]⟩,[.d .st],q7,fun o=>((o,()),()),fun s=>s.1.1⟩
noncomputable def D5d (F:ByteArray→ByteArray→Option q7):FE:=A6n.fe fun s=>F s.1.1 s.1.2.1
abbrev U5:Type:=(ByteArray×ByteArray)
noncomputable def A3i:FD:=⟨203,Tryz.f203,148,⟨[(8,[(7, .val (.li (.it .u64))),(8, .any),(9, .any),(10, .any),(11, .any)]),(10,[(7, .any),(8, .any),(9, .any),(10, .any),(11, .any)]),(15,[(7, .val (.li (.it .u64))),(8, .any),(9, .any),(10, .any),(11, .any),(12, .any),(13, .any),(14, .any)])],[],[]⟩,⟨[(0, .d .st),(1, .d .st)],[]⟩,⟨[(0, .d .st),(1, .d .st)],[]⟩,[.d .st, .d .st],U5,fun o=>((o.1,o.2,()),()),fun s=>(s.1.1,s.1.2.1)⟩
noncomputable def C6v (F:ByteArray→ByteArray→Option U5):FE:=A3i.fe fun s=>F s.1.1 s.1.2.1
abbrev A2W:Type:=(TP×TP)
noncomputable def B1J:FD:=⟨210,Tryz.f210,37,⟨[(3,[(1, .any),(6, .val (.li tQ)),(7, .any)])],[],[]⟩,⟨[(0, .d (.li tQ)),(1, .d (.li tQ))],[]⟩,⟨[(0, .d (.li tQ)),(1, .d (.li tQ))],[]⟩,[.d (.li tQ), .d (.li tQ)],A2W,fun o=>((o.1,o.2,()),()),fun s=>(s.1.1,s.1.2.1)⟩
noncomputable def D5h (F:TP→TP→Option A2W):FE:=B1J.fe fun s=>F s.1.1 s.1.2.1
abbrev B0M:Type:=Int
noncomputable def B7K:FD:=⟨213,Tryz.f213,21,⟨[],[],[]⟩,⟨[(0, .d (.ag (.pr .bo .st)))],[]⟩,⟨[(0, .d (.it .i64))],[]⟩,[.d (.it .i64)],B0M,fun o=>((o,()),()),fun s=>s.1.1⟩
noncomputable def D1D (F:TI→Option B0M):FE:=B7K.fe fun s=>F s.1.1
abbrev A5a:Type:=Int
noncomputable def B9M:FD:=⟨214,Tryz.f214,14,⟨[],[],[]⟩,⟨[(0, .d .st)],[]⟩,⟨[(0, .d (.it .i64))],[]⟩,[.d (.it .i64)],A5a,fun o=>((o,()),()),fun s=>s.1.1⟩
noncomputable def C0w (F:ByteArray→Option A5a):FE:=B9M.fe fun s=>F s.1.1
abbrev A0X:Type:=ByteArray
noncomputable def A9t:FD:=⟨215,Tryz.f215,26,⟨[(2,[(5, .val (.li (.it .u64))),(6, .val (.li (.it .u64)))])],[],[]⟩,⟨[(0, .d .st),(1, .d .st)],[]⟩,⟨[(0, .d .st)],[]⟩,[.d .st],A0X,fun o=>((o,()),()),fun s=>s.1.1⟩
noncomputable def C8F (F:ByteArray→ByteArray→Option A0X):FE:=A9t.fe fun s=>F s.1.1 s.1.2.1
abbrev A2q:Type:=Int
noncomputable def A9K:FD:=⟨216,Tryz.f216,19,⟨[(2,[(0, .any),(1, .any),(7, .any),(8, .any)])],[],[]⟩,⟨[(0, .d (.li (.li tQ))),(1, .f (.cl 176 []))],[]⟩,⟨[(0, .d (.it .i64))],[]⟩,[.d (.it .i64)],A2q,fun o=>((o,()),()),fun s=>s.1.1⟩
noncomputable def D6T (F:TF→Option A2q):FE:=A9K.fe fun s=>F s.1.1
abbrev B0k:Type:=Int
noncomputable def B7V:FD:=⟨217,Tryz.f217,6,⟨[],[],[]⟩,⟨[(0, .d (.ag (.pr .bo .st)))],[]⟩,⟨[(0, .d (.it .i64))],[]⟩,[.d (.it .i64)],B0k,fun o=>((o,()),()),fun s=>s.1.1⟩
noncomputable def D0r (F:TI→Option B0k):FE:=B7V.fe fun s=>F s.1.1
abbrev A6a:Type:=Int
noncomputable def B8G:FD:=⟨218,Tryz.f218,6,⟨[],[],[]⟩,⟨[(0, .d .st)],[]⟩,⟨[(0, .d (.it .i64))],[]⟩,[.d (.it .i64)],A6a,fun o=>((o,()),()),fun s=>s.1.1⟩
noncomputable def C5f (F:ByteArray→Option A6a):FE:=B8G.fe fun s=>F s.1.1
abbrev R2:Type:=ByteArray
noncomputable def A6q:FD:=⟨221,Tryz.f221,38,⟨[(3,[(0, .any),(3, .own (.it .u8)),(4, .any)]),(6,[(0, .any),(3, .own (.it .u8)),(4, .any),(5, .any)])],[],[]⟩,⟨[(0, .d (.li (.it .u64)))],[]⟩,⟨[(0, .d .st)],[]⟩,[.d .st],R2,fun o=>((o,()),()),fun s=>s.1.1⟩
noncomputable def B1u (F:(List Int)→Option R2):FE:=A6q.fe fun s=>F s.1.1
abbrev A9X:Type:=(ByteArray×ByteArray)
noncomputable def B8H:FD:=⟨222,Tryz.f222,20,⟨[],[],[]⟩,⟨[(0, .d .st),(1, .d .st)],[]⟩,⟨[(0, .d .st),(1, .d .st)],[]⟩,[.d .st, .d .st],A9X,fun o=>((o.1,o.2,()),()),fun s=>(s.1.1,s.1.2.1)⟩
noncomputable def D5Z (F:ByteArray→ByteArray→Option A9X):FE:=B8H.fe fun s=>F s.1.1 s.1.2.1
abbrev L8:Type:=ByteArray
noncomputable def A3F:FD:=⟨223,Tryz.f223,55,⟨[(6,[(3, .any),(17, .any),(18, .any),(19, .any)]),(9,[(3, .any),(4, .any),(5, .any),(17, .any),(18, .any),(19, .any),(24, .any)]),(15,[(3, .any),(7, .any)])],[],[]⟩,⟨[(0, .d (.li (.it .u64)))],[]⟩,⟨[(0, .d .st)],[]⟩,[.d .st],L8,fun o=>((o,()),()),fun s=>s.1.1⟩
noncomputable def A5o (F:(List Int)→Option L8):FE:=A3F.fe fun s=>F s.1.1
abbrev Z1:Type:=(List Int)
noncomputable def A5z:FD:=⟨224,Tryz.f224,80,⟨[(3,[(1, .any),(5, .any),(20, .any),(21, .any),(22, .any)]),(7,[(1, .any),(5, .any),(6, .any),(7, .any),(8, .any),(20, .any),(21, .any),(22, .any),(27, .any),(28, .any),(29, .any)])],[],[]⟩,⟨[(0, .d (.li (.it .u64))),(1, .d (.li (.it .u64)))],[]⟩,⟨[(0, .d (.li (.it .u64)))],[]⟩,[.d (.li (.it .u64))],Z1,fun o=>((o,()),()),fun s=>s.1.1⟩
noncomputable def C7U (F:(List Int)→(List Int)→Option Z1):FE:=A5z.fe fun s=>F s.1.1 s.1.2.1
abbrev V7:Type:=(List Int)
noncomputable def B0z:FD:=⟨225,Tryz.f225,39,⟨[(3,[(0, .any),(3, .any),(12, .any),(13, .any)])],[],[]⟩,⟨[(0, .d .st)],[]⟩,⟨[(0, .f (.a (.ref 3000)))],[(3000, .own (.it .u64) true)]⟩,[.own (.it .u64)],V7,fun o=>((),(o,())),fun s=>s.2.1⟩
noncomputable def A6y (F:ByteArray→Option V7):FE:=B0z.fe fun s=>F s.1.1
abbrev A2c:Type:=ByteArray
noncomputable def B1O:FD:=⟨226,Tryz.f226,60,⟨[(7,[(5, .any),(6, .any),(7, .any),(8, .any),(27, .any),(28, .any)])],[],[]⟩,⟨[(0, .d .st),(1, .d .st)],[]⟩,⟨[(0, .d .st)],[]⟩,[.d .st],A2c,fun o=>((o,()),()),fun s=>s.1.1⟩
noncomputable def D8l (F:ByteArray→ByteArray→Option A2c):FE:=B1O.fe fun s=>F s.1.1 s.1.2.1
abbrev B0B:Type:=Int
noncomputable def B7d:FD:=⟨227,Tryz.f227,27,⟨[],[],[]⟩,⟨[(0, .d .st),(1, .d .st)],[]⟩,⟨[(0, .d (.it .i64))],[]⟩,[.d (.it .i64)],B0B,fun o=>((o,()),()),fun s=>s.1.1⟩
noncomputable def D6u (F:ByteArray→ByteArray→Option B0B):FE:=B7d.fe fun s=>F s.1.1 s.1.2.1
abbrev A2E:Type:=ByteArray
noncomputable def A9s:FD:=⟨228,Tryz.f228,43,⟨[(4,[(5, .any),(6, .any),(7, .any),(15, .any),(16, .any)])],[],[]⟩,⟨[(0, .d .st),(1, .d .st)],[]⟩,⟨[(0, .d .st)],[]⟩,[.d .st],A2E,fun o=>((o,()),()),fun s=>s.1.1⟩
noncomputable def D2Z (F:ByteArray→ByteArray→Option A2E):FE:=A9s.fe fun s=>F s.1.1 s.1.2.1
abbrev U7:Type:=(List Int)
noncomputable def A6L:FD:=⟨229,Tryz.f229,34,⟨[(3,[(0, .any),(3, .own (.it .u64)),(4, .any)]),(7,[(0, .any),(3, .any),(4, .any),(5, .any),(6, .any)])],[],[]⟩,⟨[(0, .d .st)],[]⟩,⟨[(0, .f (.a (.ref 3000)))],[(3000, .own (.it .u64) true)]⟩,[.own (.it .u64)],U7,fun o=>((),(o,())),fun s=>s.2.1⟩
noncomputable def B3R (F:ByteArray→Option U7):FE:=A6L.fe fun s=>F s.1.1
abbrev A2M:Type:=(Bool×(List Int))
noncomputable def A9n:FD:=⟨230,Tryz.f230,43,⟨[(5,[(0, .pt),(1, .any),(5, .any)])],[],[]⟩,⟨[(0, .f (.a (.ref 2000))),(1, .d (.li (.it .u64)))],[(2000, .own (.it .u64) false)]⟩,⟨[(0, .d .bo)],[(2000, .own (.it .u64) false)]⟩,[.d .bo],A2M,fun o=>((o.1,()),(o.2,())),fun s=>(s.1.1,s.2.1)⟩
noncomputable def D1K (F:(List Int)→(List Int)→Option A2M):FE:=A9n.fe fun s=>F s.1.1 s.2.1
abbrev B0j:Type:=TI
noncomputable def B6r:FD:=⟨243,Tryz.f243,2,⟨[],[],[]⟩,⟨[],[]⟩,⟨[(0, .d (.ag (.pr .bo .st)))],[]⟩,[.d (.ag (.pr .bo .st))],B0j,fun o=>(((o.1,o.2),()),()),fun s=>(s.1.1.1,s.1.1.2)⟩
noncomputable def D3S (F:Option B0j):FE:=B6r.fe fun s=>F
abbrev V6:Type:=((List Int)×(List Int))
noncomputable def A3O:FD:=⟨244,Tryz.f244,137,⟨[(7,[(0, .any),(1, .any),(6, .any),(7, .any),(8, .any)]),(17,[(9, .any),(10, .val (.li (.it .u64))),(11, .any),(12, .any),(13, .any),(14, .any)]),(21,[(9, .any),(11, .any),(12, .any),(13, .any),(96, .any),(97, .any)])],[],[]⟩,⟨[(0, .d (.li (.it .u64))),(1, .d (.li (.it .u64)))],[]⟩,⟨[(0, .d (.li (.it .u64))),(1, .d (.li (.it .u64)))],[]⟩,[.d (.li (.it .u64)), .d (.li (.it .u64))],V6,fun o=>((o.1,o.2,()),()),fun s=>(s.1.1,s.1.2.1)⟩
noncomputable def C1J (F:(List Int)→(List Int)→Option V6):FE:=A3O.fe fun s=>F s.1.1 s.1.2.1
abbrev s7:Type:=(Int×(List Int))
noncomputable def A9w:FD:=⟨245,Tryz.f245,21,⟨[(2,[(0, .any),(3, .any)])],[],[]⟩,⟨[(0, .f (.a (.ref 2000)))],[(2000, .own (.it .u64) false)]⟩,⟨[(0, .pre 2000)],[(2000, .own (.it .u64) false)]⟩,[.sh],s7,fun o=>((o.1,()),(o.2,())),fun s=>(s.1.1,s.2.1)⟩
noncomputable def B8J (F:(List Int)→Option s7):FE:=A9w.fe fun s=>F s.2.1
abbrev A2a:Type:=(List Int)
noncomputable def B1r:FD:=⟨245,Tryz.f245,21,⟨[(2,[(0, .any),(3, .any)])],[],[]⟩,⟨[(0, .d (.li (.it .u64)))],[]⟩,⟨[(0, .d (.li (.it .u64)))],[]⟩,[.sh],A2a,fun o=>((o,()),()),fun s=>s.1.1⟩
noncomputable def D5w (F:(List Int)→Option A2a):FE:=B1r.fe fun s=>F s.1.1
abbrev A5m:Type:=(Int×Int)
noncomputable def B7l:FD:=⟨246,Tryz.f246,51,⟨[],[],[]⟩,⟨[(0, .d (.it .u64)),(1, .d (.it .u64))],[]⟩,⟨[(0, .d (.it .u64)),(1, .d (.it .u64))],[]⟩,[.d (.it .u64), .d (.it .u64)],A5m,fun o=>((o.1,o.2,()),()),fun s=>(s.1.1,s.1.2.1)⟩
noncomputable def C4i (F:Int→Int→Option A5m):FE:=B7l.fe fun s=>F s.1.1 s.1.2.1
abbrev A5K:Type:=(Int×Int)
noncomputable def F2X:FD:=⟨247,Tryz.f247,0,⟨[],[],[]⟩,⟨[(0, .d (.it .u64)),(1, .d (.it .u64)),(2, .d (.it .u64))],[]⟩,⟨[(0, .d (.it .u64)),(1, .d (.it .u64))],[]⟩,[],A5K,fun o=>((o.1,o.2,()),()),fun s=>(s.1.1,s.1.2.1)⟩
noncomputable def B8R (F:Int→Int→Int→Option A5K):FE:=F2X.fe fun s=>F s.1.1 s.1.2.1 s.1.2.2.1
abbrev A7R:Type:=(Int×Int)
noncomputable def F6S:FD:=⟨248,Tryz.f248,0,⟨[],[],[]⟩,⟨[(0, .d (.it .u64)),(1, .d (.it .u64)),(2, .d (.it .u64))],[]⟩,⟨[(0, .d (.it .u64)),(1, .d (.it .u64))],[]⟩,[],A7R,fun o=>((o.1,o.2,()),()),fun s=>(s.1.1,s.1.2.1)⟩
noncomputable def C1D (F:Int→Int→Int→Option A7R):FE:=F6S.fe fun s=>F s.1.1 s.1.2.1 s.1.2.2.1
abbrev A1G:Type:=(Int×(List Int))
noncomputable def B1l:FD:=⟨249,Tryz.f249,21,⟨[(1,[(0, .pt)])],[],[]⟩,⟨[(0, .f (.a (.ref 2000)))],[(2000, .own (.it .u64) false)]⟩,⟨[(0, .pre 2000)],[(2000, .own (.it .u64) false)]⟩,[.sh],A1G,fun o=>((o.1,()),(o.2,())),fun s=>(s.1.1,s.2.1)⟩
noncomputable def C5A (F:(List Int)→Option A1G):FE:=B1l.fe fun s=>F s.2.1
abbrev A1s:Type:=Int
noncomputable def B1x:FD:=⟨276,Tryz.f276,41,⟨[(6,[(0, .any),(1, .any),(5, .any)])],[],[]⟩,⟨[(0, .d (.li (.it .u64))),(1, .d (.li (.it .u64)))],[]⟩,⟨[(0, .d (.it .i64))],[]⟩,[.d (.it .i64)],A1s,fun o=>((o,()),()),fun s=>s.1.1⟩
noncomputable def D0s (F:(List Int)→(List Int)→Option A1s):FE:=B1x.fe fun s=>F s.1.1 s.1.2.1
abbrev f6:Type:=(Int×Int)
noncomputable def A6l:FD:=⟨277,Tryz.f277,135,⟨[(17,[(2, .any),(8, .any),(9, .any),(10, .any),(11, .any),(13, .any),(14, .any),(15, .any),(16, .any)]),(24,[(2, .any),(8, .any),(9, .any),(10, .any),(14, .any),(15, .any),(16, .any),(17, .any),(18, .any)])],[],[]⟩,⟨[(0, .d (.it .u64)),(1, .d (.it .u64)),(2, .d (.it .u64))],[]⟩,⟨[(0, .d (.it .u64)),(1, .d (.it .u64))],[]⟩,[.d (.it .u64), .d (.it .u64)],f6,fun o=>((o.1,o.2,()),()),fun s=>(s.1.1,s.1.2.1)⟩
noncomputable def C2K (F:Int→Int→Int→Option f6):FE:=A6l.fe fun s=>F s.1.1 s.1.2.1 s.1.2.2.1
abbrev A6G:Type:=Int
noncomputable def B6I:FD:=⟨278,Tryz.f278,6,⟨[],[],[]⟩,⟨[(0, .d (.it .u64))],[]⟩,⟨[(0, .d (.it .i64))],[]⟩,[.d (.it .i64)],A6G,fun o=>((o,()),()),fun s=>s.1.1⟩
noncomputable def C0t (F:Int→Option A6G):FE:=B6I.fe fun s=>F s.1.1
abbrev A2U:Type:=(List Int)
noncomputable def A9J:FD:=⟨279,Tryz.f279,40,⟨[(3,[(1, .any),(5, .any),(12, .any),(13, .any),(14, .any)])],[],[]⟩,⟨[(0, .d (.li (.it .u64))),(1, .d (.it .i64))],[]⟩,⟨[(0, .f (.a (.ref 3000)))],[(3000, .own (.it .u64) true)]⟩,[.own (.it .u64)],A2U,fun o=>((),(o,())),fun s=>s.2.1⟩
noncomputable def D3M (F:(List Int)→Int→Option A2U):FE:=A9J.fe fun s=>F s.1.1 s.1.2.1
abbrev X6:Type:=(Int×(List Int))
noncomputable def A4E:FD:=⟨280,Tryz.f280,186,⟨[(8,[(0, .any),(1, .any),(5, .any),(6, .any),(7, .any),(8, .any)]),(15,[(0, .any),(1, .any),(5, .any),(6, .any),(11, .any),(12, .any),(104, .any),(105, .any)]),(28,[(0, .any),(1, .any),(5, .any),(6, .any),(17, .any),(156, .any),(157, .any)])],[],[]⟩,⟨[(0, .f (.a (.ref 2000))),(1, .d (.li (.it .u64)))],[(2000, .own (.it .u64) false)]⟩,⟨[(0, .d (.it .u64))],[(2000, .own (.it .u64) false)]⟩,[.d (.it .u64)],X6,fun o=>((o.1,()),(o.2,())),fun s=>(s.1.1,s.2.1)⟩
noncomputable def D5B (F:(List Int)→(List Int)→Option X6):FE:=A4E.fe fun s=>F s.1.1 s.2.1
abbrev B2M:Type:=Int
noncomputable def D8j:FD:=⟨297,Tryz.f297,25,⟨[],[],[]⟩,⟨[(0, .d (.it .u64))],[]⟩,⟨[(0, .d (.it .i64))],[]⟩,[.d (.it .i64)],B2M,fun o=>((o,()),()),fun s=>s.1.1⟩
noncomputable def D1e (F:Int→Option B2M):FE:=D8j.fe fun s=>F s.1.1
noncomputable def A3g (x0:TI):Option A3C:=some (x0,(⟨#[1]⟩:ByteArray))
theorem F1o (s:B9J.ask.T):B9J.ev E0 [] [] s=A3g s.1.1:=by kernel_rfl
noncomputable def C5O:Sk:=⟨[(0, .d (.li (.it .u64))),(3, .d (.it .i64))],[]⟩
noncomputable def C8w (gl0:(List Int)→Int→Option A2a):List (D3 A2a):=[⟨2,C5O,fun s=>gl0 s.1.1 s.1.2.1⟩]
section
variable (gl0:(List Int)→Int→Option A2a)
noncomputable def C6e (x0:(List Int)) (x3:Int):Option A2a:=if x3>0 then(if 0≤wrap64 (x3-1)then(if wrap64 (x3-1)<(x0.length:Int)then(if rd x0 (wrap64 (x3-1))=0 then(gl0 x0 (wrap64 (x3-1)))else(if(0:Int)≤0 then(if 0≤x3 then(if x3≤(x0.length:Int)then(if(x0.length:Int)≤(x0.length:Int)then(some (slice_ x0 0 x3))else(none))else(none))else(none))else(none)))else(none))else(none))else(if(0:Int)≤0 then(if 0≤x3 then(if x3≤(x0.length:Int)then(if(x0.length:Int)≤(x0.length:Int)then(some (slice_ x0 0 x3))else(none))else(none))else(none))else(none))
theorem E4t (s0:C6 B1r.ask.bl) (s:C5O.T):B1r.po E0 [] (C8w gl0) s0 0 (C5O.mk' s)=C6e gl0 s.1.1 s.1.2.1:=by kernel_rfl
noncomputable def C1F (x0:(List Int)):Option A2a:=gl0 x0 (x0.length:Int)
theorem E1c (s:B1r.ask.T):B1r.ev E0 [] (C8w gl0) s=C1F gl0 s.1.1:=by kernel_rfl
end
noncomputable def C7s:Sk:=⟨[(3, .f (.a (.ref 3))),(17, .d (.li (.it .u64))),(18, .d (.it .i64)),(19, .d (.it .i64))],[(3, .own (.it .u8) true)]⟩
noncomputable def C9k:Sk:=⟨[(3, .f (.a (.ref 3))),(4, .d (.it .i64)),(5, .d (.it .u64)),(17, .d (.li (.it .u64))),(18, .d (.it .i64)),(19, .d (.it .i64)),(24, .d (.it .i64))],[(3, .own (.it .u8) true)]⟩
noncomputable def C1R:Sk:=⟨[(3, .f (.a (.ref 3))),(7, .d (.it .i64))],[(3, .own (.it .u8) true)]⟩
noncomputable def B2w (gl0:(List Int)→Int→Int→(List Int)→Option L8) (gl1:Int→Int→(List Int)→Int→Int→Int→(List Int)→Option L8) (gl2:Int→(List Int)→Option L8):List (D3 L8):=[⟨6,C7s,fun s=>gl0 s.1.1 s.1.2.1 s.1.2.2.1 s.2.1⟩,⟨9,C9k,fun s=>gl1 s.1.1 s.1.2.1 s.1.2.2.1 s.1.2.2.2.1 s.1.2.2.2.2.1 s.1.2.2.2.2.2.1 s.2.1⟩,⟨15,C1R,fun s=>gl2 s.1.1 s.2.1⟩]
noncomputable def B4g (c245v:(List Int)→Option A2a):List FE:=[D5w c245v]
section
variable (gl0:(List Int)→Int→Int→(List Int)→Option L8) (gl1:Int→Int→(List Int)→Int→Int→Int→(List Int)→Option L8) (gl2:Int→(List Int)→Option L8) (c245v:(List Int)→Option A2a)
noncomputable def C1n (x17:(List Int)) (x18:Int) (x19:Int) (x3:(List Int)):Option L8:=if x19<x18 then(if 0≤x19 then(if x19<(x17.length:Int)then(gl1 x19 (rd x17 x19) x17 x18 x19 0 x3)else(none))else(none))else(gl2 0 x3)
theorem E3t (s0:C6 A3F.ask.bl) (s:C7s.T):A3F.po E0 (B4g c245v) (B2w gl0 gl1 gl2) s0 0 (C7s.mk' s)=C1n gl1 gl2 s.1.1 s.1.2.1 s.1.2.2.1 s.2.1:=by kernel_rfl
noncomputable def C6T (x4:Int) (x5:Int) (x17:(List Int)) (x18:Int) (x19:Int) (x24:Int) (x3:(List Int)):Option L8:=if x24<8 then(if 0≤wrap64 (8*x24)then(if 0≤wrap64 ((wrap64 ((wrap64 ((x3.length:Int)-1))-(wrap64 (8*x4))))-x24)then(if wrap64 ((wrap64 ((wrap64 ((x3.length:Int)-1))-(wrap64 (8*x4))))-x24)<(x3.length:Int)then(gl1 x4 x5 x17 x18 x19 (wrap64 (x24+1)) (x3.set (wrap64 ((wrap64 ((wrap64 ((x3.length:Int)-1))-(wrap64 (8*x4))))-x24):Int).toNat (IntKind.u8.wrap (shr .u64 x5 (wrap64 (8*x24))))))else(none))else(none))else(none))else(gl0 x17 x18 (wrap64 (x19+1)) x3)
theorem E6H (s0:C6 A3F.ask.bl) (s:C9k.T):A3F.po E0 (B4g c245v) (B2w gl0 gl1 gl2) s0 1 (C9k.mk' s)=C6T gl0 gl1 s.1.1 s.1.2.1 s.1.2.2.1 s.1.2.2.2.1 s.1.2.2.2.2.1 s.1.2.2.2.2.2.1 s.2.1:=by kernel_rfl
noncomputable def C2k (x7:Int) (x3:(List Int)):Option L8:=if 0≤x7 then(if x7<(x3.length:Int)then(if rd x3 x7=0 then(gl2 (wrap64 (x7+1)) x3)else(if 0≤x7 then(if x7≤(x3.length:Int)then(if(x3.length:Int)≤(x3.length:Int)then(if(x3.length:Int)≤(x3.length:Int)then(some (strOfNums (slice_ x3 x7 (x3.length:Int))))else(none))else(none))else(none))else(none)))else(none))else(none)
theorem F6H (s0:C6 A3F.ask.bl) (s:C1R.T):A3F.po E0 (B4g c245v) (B2w gl0 gl1 gl2) s0 2 (C1R.mk' s)=C2k gl2 s.1.1 s.2.1:=by kernel_rfl
noncomputable def C9I (x0:(List Int)):Option L8:=(c245v x0).bind fun r1=>(if(r1.length:Int)=0 then(some (⟨#[]⟩:ByteArray))else(if 0≤wrap64 (8*(r1.length:Int))then(if wrap64 (8*(r1.length:Int))≤wrap64 (8*(r1.length:Int))then(if(wrap64 (8*(r1.length:Int)):Int).toNat≤281474976710656 then(gl0 r1 (r1.length:Int) 0 (List.replicate (wrap64 (8*(r1.length:Int)):Int).toNat (0:Int)))else(none))else(none))else(none)))
theorem D9e (s:A3F.ask.T):A3F.ev E0 (B4g c245v) (B2w gl0 gl1 gl2) s=C9I gl0 c245v s.1.1:=by kernel_rfl
end
noncomputable def D3V (c223:(List Int)→Option L8):List FE:=[A5o c223]
section
variable (c223:(List Int)→Option L8)
noncomputable def C9G (x0:Int):Option B1Q:=(c223 ([x0]:List Int)).bind fun r1=>(some r1)
theorem E7r (s:B8F.ask.T):B8F.ev E0 (D3V c223) [] s=C9G c223 s.1.1:=by kernel_rfl
end
noncomputable def D4M (c193:Int→Option B1Q):List FE:=[D8W c193]
section
variable (c193:Int→Option B1Q)
noncomputable def C1Y (x0:Int):Option B0S:=if x0<0 then((c193 (IntKind.u64.wrap (0-(IntKind.u64.wrap (x0))))).bind fun r1=>(some (true,r1)))else((c193 (IntKind.u64.wrap (x0))).bind fun r2=>(some (false,r2)))
theorem E4h (s:B8Y.ask.T):B8Y.ev E0 (D4M c193) [] s=C1Y c193 s.1.1:=by kernel_rfl
end
noncomputable def D4F (c149:TI→Option A3C) (c150:Int→Option B0S):List FE:=[B6J c149,D2x c150]
section
variable (c149:TI→Option A3C) (c150:Int→Option B0S)
noncomputable def B89 (x0:Int):Option Y7:=(c150 x0).bind fun r1=>((c149 (r1.1,r1.2)).bind fun r2=>(some (r2.1,r2.2)))
theorem e89 (s:D89.ask.T):D89.ev E0 (D4F c149 c150) [] s=B89 c149 c150 s.1.1:=by kernel_rfl
end
noncomputable def C7Z (x0:TQ):Option A1O:=some (F0 x0.1.2 (⟨#[]⟩:ByteArray))
theorem F3H (s:B8S.ask.T):B8S.ev E0 [] [] s=C7Z s.1.1:=by kernel_rfl
noncomputable def C8c (x0:ByteArray):Option A5a:=if(x0.size:Int)>0 then(if(0:Int)≤0 then(if 0<(x0.size:Int)then(if bt x0 0=0 then(some 1)else(if(x0.size:Int)>1024 then(some 4)else(some 0)))else(none))else(none))else(if(x0.size:Int)>1024 then(some 4)else(some 0))
theorem E9s (s:B9M.ask.T):B9M.ev E0 [] [] s=C8c s.1.1:=by kernel_rfl
noncomputable def C3U:Option B0j:=some (false,(⟨#[]⟩:ByteArray))
theorem E4v (s:B6r.ask.T):B6r.ev E0 [] [] s=C3U:=by kernel_rfl
noncomputable def D0Q (c214:ByteArray→Option A5a) (c243:Option B0j):List FE:=[C0w c214,D3S c243]
section
variable (c214:ByteArray→Option A5a) (c243:Option B0j)
noncomputable def C3h (x0:TI):Option B0M:=(c214 x0.2).bind fun r1=>(if r1=1 then(some r1)else((c243).bind fun r2=>(B3 ((!((x0.1==r2.1)&&(F0 x0.2 r2.2)))) (B3 ((F0 x0.2 (⟨#[]⟩:ByteArray))) (some 1) (some r1)) (some r1))))
theorem E6V (s:B7K.ask.T):B7K.ev E0 (D0Q c214 c243) [] s=C3h c214 c243 s.1.1:=by kernel_rfl
end
noncomputable def C6S:Sk:=⟨[(0, .f (.a (.ref 2000))),(3, .d (.it .i64))],[(2000, .own (.it .u64) false)]⟩
noncomputable def C0O (gl0:Int→(List Int)→Option s7):List (D3 s7):=[⟨2,C6S,fun s=>gl0 s.1.1 s.2.1⟩]
section
variable (gl0:Int→(List Int)→Option s7)
noncomputable def C0d (x3:Int) (y0:(List Int)):Option s7:=if x3>0 then(if 0≤wrap64 (x3-1)then(if wrap64 (x3-1)<(y0.length:Int)then(if rd y0 (wrap64 (x3-1))=0 then(gl0 (wrap64 (x3-1)) y0)else(if(0:Int)≤0 then(if 0≤x3 then(if x3≤(y0.length:Int)then(if(y0.length:Int)≤(y0.length:Int)then(some (x3,y0))else(none))else(none))else(none))else(none)))else(none))else(none))else(if(0:Int)≤0 then(if 0≤x3 then(if x3≤(y0.length:Int)then(if(y0.length:Int)≤(y0.length:Int)then(some (x3,y0))else(none))else(none))else(none))else(none))
theorem F3i (s0:C6 A9w.ask.bl) (s:C6S.T):A9w.po E0 [] (C0O gl0) s0 0 (C6S.mk' s)=C0d gl0 s.1.1 s.2.1:=by kernel_rfl
noncomputable def D3b (y0:(List Int)):Option s7:=gl0 (y0.length:Int) y0
theorem E8b (s:A9w.ask.T):A9w.ev E0 [] (C0O gl0) s=D3b gl0 s.2.1:=by kernel_rfl
end
noncomputable def C9w:Sk:=⟨[(0, .d .st),(3, .f (.a (.ref 3))),(12, .d (.it .i64)),(13, .d (.it .i64))],[(3, .own (.it .u64) true)]⟩
noncomputable def C1C (gl0:ByteArray→Int→Int→(List Int)→Option V7):List (D3 V7):=[⟨3,C9w,fun s=>gl0 s.1.1 s.1.2.1 s.1.2.2.1 s.2.1⟩]
noncomputable def C3m (c245:(List Int)→Option s7):List FE:=[B8J c245]
section
variable (gl0:ByteArray→Int→Int→(List Int)→Option V7) (c245:(List Int)→Option s7)
noncomputable def C9D (x0:ByteArray) (x12:Int) (x13:Int) (x3:(List Int)):Option V7:=if x13<x12 then(if(8:Int)=0 then(none)else(if 0≤wrap64 (Int.tdiv (wrap64 ((wrap64 ((x0.size:Int)-1))-x13)) 8)then(if wrap64 (Int.tdiv (wrap64 ((wrap64 ((x0.size:Int)-1))-x13)) 8)<(x3.length:Int)then(if 0≤x13 then(if x13<(x0.size:Int)then(if(8:Int)=0 then(none)else(if 0≤wrap64 (8*(Int.tmod (wrap64 ((wrap64 ((x0.size:Int)-1))-x13)) 8))then(if 0≤wrap64 (Int.tdiv (wrap64 ((wrap64 ((x0.size:Int)-1))-x13)) 8)then(if wrap64 (Int.tdiv (wrap64 ((wrap64 ((x0.size:Int)-1))-x13)) 8)<(x3.length:Int)then(gl0 x0 x12 (wrap64 (x13+1)) (x3.set (wrap64 (Int.tdiv (wrap64 ((wrap64 ((x0.size:Int)-1))-x13)) 8):Int).toNat (Go.bits .or .u64 (rd x3 (wrap64 (Int.tdiv (wrap64 ((wrap64 ((x0.size:Int)-1))-x13)) 8))) (shl .u64 (IntKind.u64.wrap (bt x0 x13)) (wrap64 (8*(Int.tmod (wrap64 ((wrap64 ((x0.size:Int)-1))-x13)) 8)))))))else(none))else(none))else(none)))else(none))else(none))else(none))else(none)))else((c245 x3).bind fun r1=>(some (r1.2.take (r1.1:Int).toNat)))
theorem F0d (s0:C6 B0z.ask.bl) (s:C9w.T):B0z.po E0 (C3m c245) (C1C gl0) s0 0 (C9w.mk' s)=C9D gl0 c245 s.1.1 s.1.2.1 s.1.2.2.1 s.2.1:=by kernel_rfl
noncomputable def C0m (x0:ByteArray):Option V7:=if(8:Int)=0 then(none)else(if 0≤wrap64 (Int.tdiv (wrap64 ((x0.size:Int)+7)) 8)then(if wrap64 (Int.tdiv (wrap64 ((x0.size:Int)+7)) 8)≤wrap64 (Int.tdiv (wrap64 ((x0.size:Int)+7)) 8)then(if(wrap64 (Int.tdiv (wrap64 ((x0.size:Int)+7)) 8):Int).toNat≤35184372088832 then(gl0 x0 (x0.size:Int) 0 (List.replicate (wrap64 (Int.tdiv (wrap64 ((x0.size:Int)+7)) 8):Int).toNat (0:Int)))else(none))else(none))else(none))
theorem E3S (s:B0z.ask.T):B0z.ev E0 (C3m c245) (C1C gl0) s=C0m gl0 s.1.1:=by kernel_rfl
end
noncomputable def C5Y:Sk:=⟨[(0, .d (.li (.it .u64))),(1, .d (.li (.it .u64))),(5, .d (.it .i64))],[]⟩
noncomputable def C3Z (gl0:(List Int)→(List Int)→Int→Option A1s):List (D3 A1s):=[⟨6,C5Y,fun s=>gl0 s.1.1 s.1.2.1 s.1.2.2.1⟩]
section
variable (gl0:(List Int)→(List Int)→Int→Option A1s)
noncomputable def C6W (x0:(List Int)) (x1:(List Int)) (x5:Int):Option A1s:=if x5≥0 then(if 0≤x5 then(if x5<(x0.length:Int)then(if 0≤x5 then(if x5<(x1.length:Int)then(if rd x0 x5≠rd x1 x5 then(if 0≤x5 then(if x5<(x0.length:Int)then(if 0≤x5 then(if x5<(x1.length:Int)then(if rd x0 x5<rd x1 x5 then(some (-1))else(some 1))else(none))else(none))else(none))else(none))else(gl0 x0 x1 (wrap64 (x5-1))))else(none))else(none))else(none))else(none))else(some 0)
theorem E1S (s0:C6 B1x.ask.bl) (s:C5Y.T):B1x.po E0 [] (C3Z gl0) s0 0 (C5Y.mk' s)=C6W gl0 s.1.1 s.1.2.1 s.1.2.2.1:=by kernel_rfl
noncomputable def C8b (x0:(List Int)) (x1:(List Int)):Option A1s:=if(x0.length:Int)≠(x1.length:Int)then(if(x0.length:Int)<(x1.length:Int)then(some (-1))else(some 1))else(gl0 x0 x1 (wrap64 ((x0.length:Int)-1)))
theorem F3S (s:B1x.ask.T):B1x.ev E0 [] (C3Z gl0) s=C8b gl0 s.1.1 s.1.2.1:=by kernel_rfl
end
noncomputable def D2a (c297:Int→Option B2M):List FE:=[D1e c297]
section
variable (c297:Int→Option B2M)
noncomputable def C7h (x0:Int):Option A6G:=(c297 x0).bind fun r1=>(some (wrap64 (64-r1)))
theorem E1V (s:B6I.ask.T):B6I.ev E0 (D2a c297) [] s=C7h c297 s.1.1:=by kernel_rfl
end
noncomputable def C3B:Sk:=⟨[(2, .d (.it .u64)),(8, .d (.it .u64)),(9, .d (.it .u64)),(10, .d (.it .u64)),(11, .d (.it .u64)),(13, .d (.it .u64)),(14, .d (.it .u64)),(15, .d (.it .u64)),(16, .d (.it .u64))],[]⟩
noncomputable def C0P:Sk:=⟨[(2, .d (.it .u64)),(8, .d (.it .u64)),(9, .d (.it .u64)),(10, .d (.it .u64)),(14, .d (.it .u64)),(15, .d (.it .u64)),(16, .d (.it .u64)),(17, .d (.it .u64)),(18, .d (.it .u64))],[]⟩
noncomputable def B6S (gl0:Int→Int→Int→Int→Int→Int→Int→Int→Int→Option f6) (gl1:Int→Int→Int→Int→Int→Int→Int→Int→Int→Option f6):List (D3 f6):=[⟨17,C3B,fun s=>gl0 s.1.1 s.1.2.1 s.1.2.2.1 s.1.2.2.2.1 s.1.2.2.2.2.1 s.1.2.2.2.2.2.1 s.1.2.2.2.2.2.2.1 s.1.2.2.2.2.2.2.2.1 s.1.2.2.2.2.2.2.2.2.1⟩,⟨24,C0P,fun s=>gl1 s.1.1 s.1.2.1 s.1.2.2.1 s.1.2.2.2.1 s.1.2.2.2.2.1 s.1.2.2.2.2.2.1 s.1.2.2.2.2.2.2.1 s.1.2.2.2.2.2.2.2.1 s.1.2.2.2.2.2.2.2.2.1⟩]
noncomputable def C0C (c278:Int→Option A6G):List FE:=[C0t c278]
section
variable (gl0:Int→Int→Int→Int→Int→Int→Int→Int→Int→Option f6) (gl1:Int→Int→Int→Int→Int→Int→Int→Int→Int→Option f6) (c278:Int→Option A6G)
noncomputable def C8Q (x2:Int) (x8:Int) (x9:Int) (x10:Int) (x11:Int) (x13:Int) (x14:Int) (x15:Int) (x16:Int):Option f6:=if x15≥4294967296 then(if IntKind.u64.wrap (x16+x9)≥4294967296 then(if x9=0 then(none)else(gl1 x2 x8 x9 x10 x14 (IntKind.u64.wrap (x15-1)) (IntKind.u64.wrap ((IntKind.u64.wrap ((IntKind.u64.wrap ((IntKind.u64.wrap (x11*4294967296))+x13))-(IntKind.u64.wrap ((IntKind.u64.wrap (x15-1))*x2))))-(IntKind.u64.wrap ((IntKind.u64.wrap (Int.tdiv (IntKind.u64.wrap ((IntKind.u64.wrap ((IntKind.u64.wrap (x11*4294967296))+x13))-(IntKind.u64.wrap ((IntKind.u64.wrap (x15-1))*x2)))) x9))*x9)))) (IntKind.u64.wrap ((IntKind.u64.wrap ((IntKind.u64.wrap (x11*4294967296))+x13))-(IntKind.u64.wrap ((IntKind.u64.wrap (x15-1))*x2)))) (IntKind.u64.wrap (Int.tdiv (IntKind.u64.wrap ((IntKind.u64.wrap ((IntKind.u64.wrap (x11*4294967296))+x13))-(IntKind.u64.wrap ((IntKind.u64.wrap (x15-1))*x2)))) x9))))else(gl0 x2 x8 x9 x10 x11 x13 x14 (IntKind.u64.wrap (x15-1)) (IntKind.u64.wrap (x16+x9))))else(if IntKind.u64.wrap (x15*x10)>IntKind.u64.wrap ((IntKind.u64.wrap (4294967296*x16))+x13)then(if IntKind.u64.wrap (x16+x9)≥4294967296 then(if x9=0 then(none)else(gl1 x2 x8 x9 x10 x14 (IntKind.u64.wrap (x15-1)) (IntKind.u64.wrap ((IntKind.u64.wrap ((IntKind.u64.wrap ((IntKind.u64.wrap (x11*4294967296))+x13))-(IntKind.u64.wrap ((IntKind.u64.wrap (x15-1))*x2))))-(IntKind.u64.wrap ((IntKind.u64.wrap (Int.tdiv (IntKind.u64.wrap ((IntKind.u64.wrap ((IntKind.u64.wrap (x11*4294967296))+x13))-(IntKind.u64.wrap ((IntKind.u64.wrap (x15-1))*x2)))) x9))*x9)))) (IntKind.u64.wrap ((IntKind.u64.wrap ((IntKind.u64.wrap (x11*4294967296))+x13))-(IntKind.u64.wrap ((IntKind.u64.wrap (x15-1))*x2)))) (IntKind.u64.wrap (Int.tdiv (IntKind.u64.wrap ((IntKind.u64.wrap ((IntKind.u64.wrap (x11*4294967296))+x13))-(IntKind.u64.wrap ((IntKind.u64.wrap (x15-1))*x2)))) x9))))else(gl0 x2 x8 x9 x10 x11 x13 x14 (IntKind.u64.wrap (x15-1)) (IntKind.u64.wrap (x16+x9))))else(if x9=0 then(none)else(gl1 x2 x8 x9 x10 x14 x15 (IntKind.u64.wrap ((IntKind.u64.wrap ((IntKind.u64.wrap ((IntKind.u64.wrap (x11*4294967296))+x13))-(IntKind.u64.wrap (x15*x2))))-(IntKind.u64.wrap ((IntKind.u64.wrap (Int.tdiv (IntKind.u64.wrap ((IntKind.u64.wrap ((IntKind.u64.wrap (x11*4294967296))+x13))-(IntKind.u64.wrap (x15*x2)))) x9))*x9)))) (IntKind.u64.wrap ((IntKind.u64.wrap ((IntKind.u64.wrap (x11*4294967296))+x13))-(IntKind.u64.wrap (x15*x2)))) (IntKind.u64.wrap (Int.tdiv (IntKind.u64.wrap ((IntKind.u64.wrap ((IntKind.u64.wrap (x11*4294967296))+x13))-(IntKind.u64.wrap (x15*x2)))) x9)))))
theorem E6s (s0:C6 A6l.ask.bl) (s:C3B.T):A6l.po E0 (C0C c278) (B6S gl0 gl1) s0 0 (C3B.mk' s)=C8Q gl0 gl1 s.1.1 s.1.2.1 s.1.2.2.1 s.1.2.2.2.1 s.1.2.2.2.2.1 s.1.2.2.2.2.2.1 s.1.2.2.2.2.2.2.1 s.1.2.2.2.2.2.2.2.1 s.1.2.2.2.2.2.2.2.2.1:=by kernel_rfl
noncomputable def C7u (x2:Int) (x8:Int) (x9:Int) (x10:Int) (x14:Int) (x15:Int) (x16:Int) (x17:Int) (x18:Int):Option f6:=if x18≥4294967296 then(if IntKind.u64.wrap (x16+x9)≥4294967296 then(if 0≤x8 then(some (IntKind.u64.wrap ((IntKind.u64.wrap (x15*4294967296))+(IntKind.u64.wrap (x18-1))),shr .u64 (IntKind.u64.wrap ((IntKind.u64.wrap ((IntKind.u64.wrap (x17*4294967296))+x14))-(IntKind.u64.wrap ((IntKind.u64.wrap (x18-1))*x2)))) x8))else(none))else(gl1 x2 x8 x9 x10 x14 x15 (IntKind.u64.wrap (x16+x9)) x17 (IntKind.u64.wrap (x18-1))))else(if IntKind.u64.wrap (x18*x10)>IntKind.u64.wrap ((IntKind.u64.wrap (4294967296*x16))+x14)then(if IntKind.u64.wrap (x16+x9)≥4294967296 then(if 0≤x8 then(some (IntKind.u64.wrap ((IntKind.u64.wrap (x15*4294967296))+(IntKind.u64.wrap (x18-1))),shr .u64 (IntKind.u64.wrap ((IntKind.u64.wrap ((IntKind.u64.wrap (x17*4294967296))+x14))-(IntKind.u64.wrap ((IntKind.u64.wrap (x18-1))*x2)))) x8))else(none))else(gl1 x2 x8 x9 x10 x14 x15 (IntKind.u64.wrap (x16+x9)) x17 (IntKind.u64.wrap (x18-1))))else(if 0≤x8 then(some (IntKind.u64.wrap ((IntKind.u64.wrap (x15*4294967296))+x18),shr .u64 (IntKind.u64.wrap ((IntKind.u64.wrap ((IntKind.u64.wrap (x17*4294967296))+x14))-(IntKind.u64.wrap (x18*x2)))) x8))else(none)))
theorem E5d (s0:C6 A6l.ask.bl) (s:C0P.T):A6l.po E0 (C0C c278) (B6S gl0 gl1) s0 1 (C0P.mk' s)=C7u gl1 s.1.1 s.1.2.1 s.1.2.2.1 s.1.2.2.2.1 s.1.2.2.2.2.1 s.1.2.2.2.2.2.1 s.1.2.2.2.2.2.2.1 s.1.2.2.2.2.2.2.2.1 s.1.2.2.2.2.2.2.2.2.1:=by kernel_rfl
noncomputable def C6N (x0:Int) (x1:Int) (x2:Int):Option f6:=if x2=0 then(none)else(if x2≤x0 then(none)else(if x0=0 then(if x2=0 then(none)else(if x2=0 then(none)else(some (IntKind.u64.wrap (Int.tdiv x1 x2),Int.tmod x1 x2))))else((c278 x2).bind fun r1=>(if 0≤IntKind.u64.wrap (r1)then(if(0:Int)≤32 then(if 0≤IntKind.u64.wrap (r1)then(if 0≤IntKind.u64.wrap (64-(IntKind.u64.wrap (r1)))then(if 0≤IntKind.u64.wrap (r1)then(if(0:Int)≤32 then(if(shl .u64 x2 (IntKind.u64.wrap (r1)))/4294967296=0 then(none)else(gl0 (shl .u64 x2 (IntKind.u64.wrap (r1))) (IntKind.u64.wrap (r1)) ((shl .u64 x2 (IntKind.u64.wrap (r1)))/4294967296) (Go.bits .and .u64 (shl .u64 x2 (IntKind.u64.wrap (r1))) 4294967295) (Go.bits .or .u64 (shl .u64 x0 (IntKind.u64.wrap (r1))) (shr .u64 x1 (IntKind.u64.wrap (64-(IntKind.u64.wrap (r1)))))) ((shl .u64 x1 (IntKind.u64.wrap (r1)))/4294967296) (Go.bits .and .u64 (shl .u64 x1 (IntKind.u64.wrap (r1))) 4294967295) (IntKind.u64.wrap (Int.tdiv (Go.bits .or .u64 (shl .u64 x0 (IntKind.u64.wrap (r1))) (shr .u64 x1 (IntKind.u64.wrap (64-(IntKind.u64.wrap (r1)))))) ((shl .u64 x2 (IntKind.u64.wrap (r1)))/4294967296))) (IntKind.u64.wrap ((Go.bits .or .u64 (shl .u64 x0 (IntKind.u64.wrap (r1))) (shr .u64 x1 (IntKind.u64.wrap (64-(IntKind.u64.wrap (r1))))))-(IntKind.u64.wrap ((IntKind.u64.wrap (Int.tdiv (Go.bits .or .u64 (shl .u64 x0 (IntKind.u64.wrap (r1))) (shr .u64 x1 (IntKind.u64.wrap (64-(IntKind.u64.wrap (r1)))))) ((shl .u64 x2 (IntKind.u64.wrap (r1)))/4294967296)))*((shl .u64 x2 (IntKind.u64.wrap (r1)))/4294967296)))))))else(none))else(none))else(none))else(none))else(none))else(none)))))
theorem E0m (s:A6l.ask.T):A6l.ev E0 (C0C c278) (B6S gl0 gl1) s=C6N gl0 c278 s.1.1 s.1.2.1 s.1.2.2.1:=by kernel_rfl
end
noncomputable def C7L:Sk:=⟨[(1, .d (.it .i64)),(5, .f (.a (.ref 5))),(12, .d (.li (.it .u64))),(13, .d (.it .i64)),(14, .d (.it .i64))],[(5, .own (.it .u64) true)]⟩
noncomputable def C1w (gl0:Int→(List Int)→Int→Int→(List Int)→Option A2U):List (D3 A2U):=[⟨3,C7L,fun s=>gl0 s.1.1 s.1.2.1 s.1.2.2.1 s.1.2.2.2.1 s.2.1⟩]
section
variable (gl0:Int→(List Int)→Int→Int→(List Int)→Option A2U)
noncomputable def C3d (x1:Int) (x12:(List Int)) (x13:Int) (x14:Int) (x5:(List Int)):Option A2U:=if x14<x13 then(if 0≤x14 then(if x14<(x12.length:Int)then(if 0≤x14 then(if x14<(x5.length:Int)then(if 0≤x1 then(if 0≤x14 then(if x14<(x5.length:Int)then(if x1>0 then(if 0≤wrap64 (64-x1)then(if 0≤wrap64 (x14+1)then(if wrap64 (x14+1)<((x5.set (x14:Int).toNat (Go.bits .or .u64 (rd x5 x14) (shl .u64 (rd x12 x14) x1))).length:Int)then(gl0 x1 x12 x13 (wrap64 (x14+1)) ((x5.set (x14:Int).toNat (Go.bits .or .u64 (rd x5 x14) (shl .u64 (rd x12 x14) x1))).set (wrap64 (x14+1):Int).toNat (shr .u64 (rd x12 x14) (wrap64 (64-x1)))))else(none))else(none))else(none))else(gl0 x1 x12 x13 (wrap64 (x14+1)) (x5.set (x14:Int).toNat (Go.bits .or .u64 (rd x5 x14) (shl .u64 (rd x12 x14) x1)))))else(none))else(none))else(none))else(none))else(none))else(none))else(none))else(some x5)
theorem F3M (s0:C6 A9J.ask.bl) (s:C7L.T):A9J.po E0 [] (C1w gl0) s0 0 (C7L.mk' s)=C3d gl0 s.1.1 s.1.2.1 s.1.2.2.1 s.1.2.2.2.1 s.2.1:=by kernel_rfl
noncomputable def C6F (x0:(List Int)) (x1:Int):Option A2U:=if 0≤wrap64 ((x0.length:Int)+1)then(if wrap64 ((x0.length:Int)+1)≤wrap64 ((x0.length:Int)+1)then(if(wrap64 ((x0.length:Int)+1):Int).toNat≤35184372088832 then(gl0 x1 x0 (x0.length:Int) 0 (List.replicate (wrap64 ((x0.length:Int)+1):Int).toNat (0:Int)))else(none))else(none))else(none)
theorem F5r (s:A9J.ask.T):A9J.ev E0 [] (C1w gl0) s=C6F gl0 s.1.1 s.1.2.1:=by kernel_rfl
end
noncomputable def C0M (x0:Int) (x1:Int):Option A5m:=if(0:Int)≤32 then(if(0:Int)≤32 then(if(0:Int)≤32 then(if(0:Int)≤32 then(if(0:Int)≤32 then(some (IntKind.u64.wrap ((IntKind.u64.wrap ((IntKind.u64.wrap ((x0/4294967296)*(x1/4294967296)))+((IntKind.u64.wrap ((IntKind.u64.wrap ((x0/4294967296)*(Go.bits .and .u64 x1 4294967295)))+((IntKind.u64.wrap ((Go.bits .and .u64 x0 4294967295)*(Go.bits .and .u64 x1 4294967295)))/4294967296)))/4294967296)))+((IntKind.u64.wrap ((Go.bits .and .u64 (IntKind.u64.wrap ((IntKind.u64.wrap ((x0/4294967296)*(Go.bits .and .u64 x1 4294967295)))+((IntKind.u64.wrap ((Go.bits .and .u64 x0 4294967295)*(Go.bits .and .u64 x1 4294967295)))/4294967296))) 4294967295)+(IntKind.u64.wrap ((Go.bits .and .u64 x0 4294967295)*(x1/4294967296)))))/4294967296)),IntKind.u64.wrap (x0*x1)))else(none))else(none))else(none))else(none))else(none)
theorem E2A (s:B7l.ask.T):B7l.ev E0 [] [] s=C0M s.1.1 s.1.2.1:=by kernel_rfl
noncomputable def C6j:Sk:=⟨[(0, .f (.a (.ref 2000))),(1, .d (.li (.it .u64))),(5, .d (.it .i64)),(6, .d (.it .u64)),(7, .d (.it .u64)),(8, .d (.it .u64))],[(2000, .own (.it .u64) false)]⟩
noncomputable def C9P:Sk:=⟨[(0, .f (.a (.ref 2000))),(1, .d (.li (.it .u64))),(5, .d (.it .i64)),(6, .d (.it .u64)),(11, .d (.it .u64)),(12, .d (.it .u64)),(104, .d (.it .i64)),(105, .d (.it .i64))],[(2000, .own (.it .u64) false)]⟩
noncomputable def C0v:Sk:=⟨[(0, .f (.a (.ref 2000))),(1, .d (.li (.it .u64))),(5, .d (.it .i64)),(6, .d (.it .u64)),(17, .d (.it .u64)),(156, .d (.it .i64)),(157, .d (.it .i64))],[(2000, .own (.it .u64) false)]⟩
noncomputable def B4F (gl0:(List Int)→Int→Int→Int→Int→(List Int)→Option X6) (gl1:(List Int)→Int→Int→Int→Int→Int→Int→(List Int)→Option X6) (gl2:(List Int)→Int→Int→Int→Int→Int→(List Int)→Option X6):List (D3 X6):=[⟨8,C6j,fun s=>gl0 s.1.1 s.1.2.1 s.1.2.2.1 s.1.2.2.2.1 s.1.2.2.2.2.1 s.2.1⟩,⟨15,C9P,fun s=>gl1 s.1.1 s.1.2.1 s.1.2.2.1 s.1.2.2.2.1 s.1.2.2.2.2.1 s.1.2.2.2.2.2.1 s.1.2.2.2.2.2.2.1 s.2.1⟩,⟨28,C0v,fun s=>gl2 s.1.1 s.1.2.1 s.1.2.2.1 s.1.2.2.2.1 s.1.2.2.2.2.1 s.1.2.2.2.2.2.1 s.2.1⟩]
noncomputable def B2Q (c246:Int→Int→Option A5m) (c247:Int→Int→Int→Option A5K) (c248:Int→Int→Int→Option A7R) (c277:Int→Int→Int→Option f6):List FE:=[C4i c246,B8R c247,C1D c248,C2K c277]
section
variable (gl0:(List Int)→Int→Int→Int→Int→(List Int)→Option X6) (gl1:(List Int)→Int→Int→Int→Int→Int→Int→(List Int)→Option X6) (gl2:(List Int)→Int→Int→Int→Int→Int→(List Int)→Option X6) (c246:Int→Int→Option A5m) (c247:Int→Int→Int→Option A5K) (c248:Int→Int→Int→Option A7R) (c277:Int→Int→Int→Option f6)
noncomputable def C9Y (x1:(List Int)) (x5:Int) (x6:Int) (x7:Int) (x8:Int) (y0:(List Int)):Option X6:=if x8=0 then(if 0≤wrap64 (x5-2)then(if wrap64 (x5-2)<(x1.length:Int)then((c246 x6 (rd x1 (wrap64 (x5-2)))).bind fun r1=>(if r1.1<x7 then(gl1 x1 x5 x6 0 0 x5 0 y0)else(if r1.1=x7 then(if 0≤wrap64 (x5-2)then(if wrap64 (x5-2)<(y0.length:Int)then(if r1.2≤rd y0 (wrap64 (x5-2))then(gl1 x1 x5 x6 0 0 x5 0 y0)else(if 0≤wrap64 (x5-1)then(if wrap64 (x5-1)<(x1.length:Int)then((c247 x7 (rd x1 (wrap64 (x5-1))) 0).bind fun r2=>(gl0 x1 x5 (IntKind.u64.wrap (x6-1)) r2.1 r2.2 y0))else(none))else(none)))else(none))else(none))else(if 0≤wrap64 (x5-1)then(if wrap64 (x5-1)<(x1.length:Int)then((c247 x7 (rd x1 (wrap64 (x5-1))) 0).bind fun r3=>(gl0 x1 x5 (IntKind.u64.wrap (x6-1)) r3.1 r3.2 y0))else(none))else(none)))))else(none))else(none))else(gl1 x1 x5 x6 0 0 x5 0 y0)
theorem F2u (s0:C6 A4E.ask.bl) (s:C6j.T):A4E.po E0 (B2Q c246 c247 c248 c277) (B4F gl0 gl1 gl2) s0 0 (C6j.mk' s)=C9Y gl0 gl1 c246 c247 s.1.1 s.1.2.1 s.1.2.2.1 s.1.2.2.2.1 s.1.2.2.2.2.1 s.2.1:=by kernel_rfl
noncomputable def C4Y (x1:(List Int)) (x5:Int) (x6:Int) (x11:Int) (x12:Int) (x104:Int) (x105:Int) (y0:(List Int)):Option X6:=if x105<x104 then(if 0≤x105 then(if x105<(x1.length:Int)then((c246 x6 (rd x1 x105)).bind fun r1=>((c247 r1.2 x12 0).bind fun r2=>(if 0≤x105 then(if x105<(y0.length:Int)then((c248 (rd y0 x105) r2.1 x11).bind fun r3=>(if 0≤x105 then(if x105<(y0.length:Int)then(gl1 x1 x5 x6 r3.2 (IntKind.u64.wrap (r1.1+r2.2)) x104 (wrap64 (x105+1)) (y0.set (x105:Int).toNat r3.1))else(none))else(none)))else(none))else(none))))else(none))else(none))else(if 0≤x5 then(if x5<(y0.length:Int)then((c248 (rd y0 x5) x12 x11).bind fun r4=>(if 0≤x5 then(if x5<(y0.length:Int)then(if r4.2=0 then(some (x6,y0.set (x5:Int).toNat r4.1))else(gl2 x1 x5 x6 0 x5 0 (y0.set (x5:Int).toNat r4.1)))else(none))else(none)))else(none))else(none))
theorem F2S (s0:C6 A4E.ask.bl) (s:C9P.T):A4E.po E0 (B2Q c246 c247 c248 c277) (B4F gl0 gl1 gl2) s0 1 (C9P.mk' s)=C4Y gl1 gl2 c246 c247 c248 s.1.1 s.1.2.1 s.1.2.2.1 s.1.2.2.2.1 s.1.2.2.2.2.1 s.1.2.2.2.2.2.1 s.1.2.2.2.2.2.2.1 s.2.1:=by kernel_rfl
noncomputable def C9O (x1:(List Int)) (x5:Int) (x6:Int) (x17:Int) (x156:Int) (x157:Int) (y0:(List Int)):Option X6:=if x157<x156 then(if 0≤x157 then(if x157<(y0.length:Int)then(if 0≤x157 then(if x157<(x1.length:Int)then((c247 (rd y0 x157) (rd x1 x157) x17).bind fun r1=>(if 0≤x157 then(if x157<(y0.length:Int)then(gl2 x1 x5 x6 r1.2 x156 (wrap64 (x157+1)) (y0.set (x157:Int).toNat r1.1))else(none))else(none)))else(none))else(none))else(none))else(none))else(if 0≤x5 then(if x5<(y0.length:Int)then(if 0≤x5 then(if x5<(y0.length:Int)then(some (IntKind.u64.wrap (x6-1),y0.set (x5:Int).toNat (IntKind.u64.wrap ((rd y0 x5)+x17))))else(none))else(none))else(none))else(none))
theorem E9V (s0:C6 A4E.ask.bl) (s:C0v.T):A4E.po E0 (B2Q c246 c247 c248 c277) (B4F gl0 gl1 gl2) s0 2 (C0v.mk' s)=C9O gl2 c247 s.1.1 s.1.2.1 s.1.2.2.1 s.1.2.2.2.1 s.1.2.2.2.2.1 s.1.2.2.2.2.2.1 s.2.1:=by kernel_rfl
noncomputable def C0c (x1:(List Int)) (y0:(List Int)):Option X6:=if 0≤(x1.length:Int)then(if(x1.length:Int)<(y0.length:Int)then(if 0≤wrap64 ((x1.length:Int)-1)then(if wrap64 ((x1.length:Int)-1)<(x1.length:Int)then(if rd y0 (x1.length:Int)≥rd x1 (wrap64 ((x1.length:Int)-1))then(if 0≤wrap64 ((x1.length:Int)-1)then(if wrap64 ((x1.length:Int)-1)<(y0.length:Int)then(if 0≤wrap64 ((x1.length:Int)-1)then(if wrap64 ((x1.length:Int)-1)<(x1.length:Int)then((c247 (rd y0 (wrap64 ((x1.length:Int)-1))) (rd x1 (wrap64 ((x1.length:Int)-1))) 0).bind fun r1=>(gl0 x1 (x1.length:Int) 18446744073709551615 r1.1 r1.2 y0))else(none))else(none))else(none))else(none))else(if 0≤(x1.length:Int)then(if(x1.length:Int)<(y0.length:Int)then(if 0≤wrap64 ((x1.length:Int)-1)then(if wrap64 ((x1.length:Int)-1)<(y0.length:Int)then(if 0≤wrap64 ((x1.length:Int)-1)then(if wrap64 ((x1.length:Int)-1)<(x1.length:Int)then((c277 (rd y0 (x1.length:Int)) (rd y0 (wrap64 ((x1.length:Int)-1))) (rd x1 (wrap64 ((x1.length:Int)-1)))).bind fun r2=>(gl0 x1 (x1.length:Int) r2.1 r2.2 0 y0))else(none))else(none))else(none))else(none))else(none))else(none)))else(none))else(none))else(none))else(none)
theorem F2Y (s:A4E.ask.T):A4E.ev E0 (B2Q c246 c247 c248 c277) (B4F gl0 gl1 gl2) s=C0c gl0 c247 c277 s.1.1 s.2.1:=by kernel_rfl
end
noncomputable def C7t:Sk:=⟨[(0, .d (.li (.it .u64))),(1, .d (.li (.it .u64))),(6, .f (.a (.ref 6))),(7, .d (.it .u64)),(8, .d (.it .i64))],[(6, .own (.it .u64) true)]⟩
noncomputable def C7o:Sk:=⟨[(9, .d (.it .i64)),(10, .d (.li (.it .u64))),(11, .f (.a (.ref 11))),(12, .d (.it .i64)),(13, .f (.a (.ref 13))),(14, .d (.it .i64))],[(11, .own (.it .u64) true),(13, .own (.it .u64) true)]⟩
noncomputable def C3w:Sk:=⟨[(9, .d (.it .i64)),(11, .f (.a (.ref 11))),(12, .d (.it .i64)),(13, .f (.a (.ref 13))),(96, .d (.it .i64)),(97, .d (.it .i64))],[(11, .own (.it .u64) true),(13, .own (.it .u64) true)]⟩
noncomputable def B4z (gl0:(List Int)→(List Int)→Int→Int→(List Int)→Option V6) (gl1:Int→(List Int)→Int→Int→(List Int)→(List Int)→Option V6) (gl2:Int→Int→Int→Int→(List Int)→(List Int)→Option V6):List (D3 V6):=[⟨7,C7t,fun s=>gl0 s.1.1 s.1.2.1 s.1.2.2.1 s.1.2.2.2.1 s.2.1⟩,⟨17,C7o,fun s=>gl1 s.1.1 s.1.2.1 s.1.2.2.1 s.1.2.2.2.1 s.2.1 s.2.2.1⟩,⟨21,C3w,fun s=>gl2 s.1.1 s.1.2.1 s.1.2.2.1 s.1.2.2.2.1 s.2.1 s.2.2.1⟩]
noncomputable def B3v (c245:(List Int)→Option s7) (c276:(List Int)→(List Int)→Option A1s) (c277:Int→Int→Int→Option f6) (c278:Int→Option A6G) (c279:(List Int)→Int→Option A2U) (c280:(List Int)→(List Int)→Option X6):List FE:=[B8J c245,D0s c276,C2K c277,C0t c278,D3M c279,D5B c280]
section
variable (gl0:(List Int)→(List Int)→Int→Int→(List Int)→Option V6) (gl1:Int→(List Int)→Int→Int→(List Int)→(List Int)→Option V6) (gl2:Int→Int→Int→Int→(List Int)→(List Int)→Option V6) (c245:(List Int)→Option s7) (c276:(List Int)→(List Int)→Option A1s) (c277:Int→Int→Int→Option f6) (c278:Int→Option A6G) (c279:(List Int)→Int→Option A2U) (c280:(List Int)→(List Int)→Option X6)
noncomputable def C0Z (x0:(List Int)) (x1:(List Int)) (x7:Int) (x8:Int) (x6:(List Int)):Option V6:=if x8≥0 then(if 0≤x8 then(if x8<(x0.length:Int)then(if(0:Int)≤0 then(if 0<(x1.length:Int)then((c277 x7 (rd x0 x8) (rd x1 0)).bind fun r1=>(if 0≤x8 then(if x8<(x6.length:Int)then(gl0 x0 x1 r1.2 (wrap64 (x8-1)) (x6.set (x8:Int).toNat r1.1))else(none))else(none)))else(none))else(none))else(none))else(none))else((c245 x6).bind fun r2=>((c245 ([x7]:List Int)).bind fun r3=>(some (r2.2.take (r2.1:Int).toNat,r3.2.take (r3.1:Int).toNat))))
theorem E9A (s0:C6 A3O.ask.bl) (s:C7t.T):A3O.po E0 (B3v c245 c276 c277 c278 c279 c280) (B4z gl0 gl1 gl2) s0 0 (C7t.mk' s)=C0Z gl0 c245 c277 s.1.1 s.1.2.1 s.1.2.2.1 s.1.2.2.2.1 s.2.1:=by kernel_rfl
noncomputable def C2d (x9:Int) (x10:(List Int)) (x12:Int) (x14:Int) (x11:(List Int)) (x13:(List Int)):Option V6:=if x14≥0 then(if 0≤x14 then(if x14≤wrap64 ((wrap64 (x14+x12))+1)then(if wrap64 ((wrap64 (x14+x12))+1)≤(x11.length:Int)then(if(x11.length:Int)≤(x11.length:Int)then((c280 x10 (slice_ x11 x14 (wrap64 ((wrap64 (x14+x12))+1)))).bind fun r1=>(if 0≤x14 then(if x14<(x13.length:Int)then(gl1 x9 x10 x12 (wrap64 (x14-1)) (x11.take ((x14:Int).toNat)++r1.2++x11.drop ((wrap64 ((wrap64 (x14+x12))+1):Int).toNat)) (x13.set (x14:Int).toNat r1.1))else(none))else(none)))else(none))else(none))else(none))else(none))else(gl2 x9 x12 x12 0 x11 x13)
theorem E7m (s0:C6 A3O.ask.bl) (s:C7o.T):A3O.po E0 (B3v c245 c276 c277 c278 c279 c280) (B4z gl0 gl1 gl2) s0 1 (C7o.mk' s)=C2d gl1 gl2 c280 s.1.1 s.1.2.1 s.1.2.2.1 s.1.2.2.2.1 s.2.1 s.2.2.1:=by kernel_rfl
noncomputable def C7V (x9:Int) (x12:Int) (x96:Int) (x97:Int) (x11:(List Int)) (x13:(List Int)):Option V6:=if x97<x96 then(if 0≤x97 then(if x97<(x11.length:Int)then(if 0≤x9 then(if 0≤x97 then(if x97<(x11.length:Int)then(if x9>0 then(if wrap64 (x97+1)<((x11.set (x97:Int).toNat (shr .u64 (rd x11 x97) x9)).length:Int)then(if 0≤x97 then(if x97<((x11.set (x97:Int).toNat (shr .u64 (rd x11 x97) x9)).length:Int)then(if 0≤wrap64 (x97+1)then(if wrap64 (x97+1)<((x11.set (x97:Int).toNat (shr .u64 (rd x11 x97) x9)).length:Int)then(if 0≤wrap64 (64-x9)then(if 0≤x97 then(if x97<((x11.set (x97:Int).toNat (shr .u64 (rd x11 x97) x9)).length:Int)then(gl2 x9 x12 x96 (wrap64 (x97+1)) ((x11.set (x97:Int).toNat (shr .u64 (rd x11 x97) x9)).set (x97:Int).toNat (Go.bits .or .u64 (rd (x11.set (x97:Int).toNat (shr .u64 (rd x11 x97) x9)) x97) (shl .u64 (rd (x11.set (x97:Int).toNat (shr .u64 (rd x11 x97) x9)) (wrap64 (x97+1))) (wrap64 (64-x9))))) x13)else(none))else(none))else(none))else(none))else(none))else(none))else(none))else(gl2 x9 x12 x96 (wrap64 (x97+1)) (x11.set (x97:Int).toNat (shr .u64 (rd x11 x97) x9)) x13))else(gl2 x9 x12 x96 (wrap64 (x97+1)) (x11.set (x97:Int).toNat (shr .u64 (rd x11 x97) x9)) x13))else(none))else(none))else(none))else(none))else(none))else((c245 x13).bind fun r1=>(if(0:Int)≤0 then(if 0≤x12 then(if x12≤(x11.length:Int)then(if(x11.length:Int)≤(x11.length:Int)then((c245 (slice_ x11 0 x12)).bind fun r2=>(some (r1.2.take (r1.1:Int).toNat,slice_ (x11.take ((0:Int).toNat)++r2.2++x11.drop ((x12:Int).toNat)) 0 (0+r2.1))))else(none))else(none))else(none))else(none)))
theorem E2p (s0:C6 A3O.ask.bl) (s:C3w.T):A3O.po E0 (B3v c245 c276 c277 c278 c279 c280) (B4z gl0 gl1 gl2) s0 2 (C3w.mk' s)=C7V gl2 c245 s.1.1 s.1.2.1 s.1.2.2.1 s.1.2.2.2.1 s.2.1 s.2.2.1:=by kernel_rfl
noncomputable def C8k (x0:(List Int)) (x1:(List Int)):Option V6:=(c276 x0 x1).bind fun r1=>(if r1<0 then(some (([]:List Int),x0))else(if(x1.length:Int)=1 then(if 0≤(x0.length:Int)then(if(x0.length:Int)≤(x0.length:Int)then(if((x0.length:Int):Int).toNat≤35184372088832 then(gl0 x0 x1 0 (wrap64 ((x0.length:Int)-1)) (List.replicate ((x0.length:Int):Int).toNat (0:Int)))else(none))else(none))else(none))else(if 0≤wrap64 ((x1.length:Int)-1)then(if wrap64 ((x1.length:Int)-1)<(x1.length:Int)then((c278 (rd x1 (wrap64 ((x1.length:Int)-1)))).bind fun r2=>((c279 x1 r2).bind fun r3=>((c245 r3).bind fun r4=>((c279 x0 r2).bind fun r5=>(if 0≤wrap64 ((wrap64 ((x0.length:Int)-((r4.2.take (r4.1:Int).toNat).length:Int)))+1)then(if wrap64 ((wrap64 ((x0.length:Int)-((r4.2.take (r4.1:Int).toNat).length:Int)))+1)≤wrap64 ((wrap64 ((x0.length:Int)-((r4.2.take (r4.1:Int).toNat).length:Int)))+1)then(if(wrap64 ((wrap64 ((x0.length:Int)-((r4.2.take (r4.1:Int).toNat).length:Int)))+1):Int).toNat≤35184372088832 then(gl1 r2 (r4.2.take (r4.1:Int).toNat) ((r4.2.take (r4.1:Int).toNat).length:Int) (wrap64 ((x0.length:Int)-((r4.2.take (r4.1:Int).toNat).length:Int))) r5 (List.replicate (wrap64 ((wrap64 ((x0.length:Int)-((r4.2.take (r4.1:Int).toNat).length:Int)))+1):Int).toNat (0:Int)))else(none))else(none))else(none))))))else(none))else(none))))
theorem E7y (s:A3O.ask.T):A3O.ev E0 (B3v c245 c276 c277 c278 c279 c280) (B4z gl0 gl1 gl2) s=C8k gl0 gl1 c245 c276 c278 c279 s.1.1 s.1.2.1:=by kernel_rfl
end
noncomputable def C6b:Sk:=⟨[(5, .d (.li (.it .u64))),(6, .d (.li (.it .u64)))],[]⟩
noncomputable def C6U (gl0:(List Int)→(List Int)→Option A0X):List (D3 A0X):=[⟨2,C6b,fun s=>gl0 s.1.1 s.1.2.1⟩]
noncomputable def C7O (c223:(List Int)→Option L8) (c225:ByteArray→Option V7) (c244:(List Int)→(List Int)→Option V6):List FE:=[A5o c223,A6y c225,C1J c244]
section
variable (gl0:(List Int)→(List Int)→Option A0X) (c223:(List Int)→Option L8) (c225:ByteArray→Option V7) (c244:(List Int)→(List Int)→Option V6)
noncomputable def C4t (x5:(List Int)) (x6:(List Int)):Option A0X:=if(x6.length:Int)>0 then((c244 x5 x6).bind fun r1=>(gl0 x6 r1.2))else((c223 x5).bind fun r2=>(some r2))
theorem E4Y (s0:C6 A9t.ask.bl) (s:C6b.T):A9t.po E0 (C7O c223 c225 c244) (C6U gl0) s0 0 (C6b.mk' s)=C4t gl0 c223 c244 s.1.1 s.1.2.1:=by kernel_rfl
noncomputable def C0h (x0:ByteArray) (x1:ByteArray):Option A0X:=(c225 x0).bind fun r1=>((c225 x1).bind fun r2=>(gl0 r1 r2))
theorem F1N (s:A9t.ask.T):A9t.ev E0 (C7O c223 c225 c244) (C6U gl0) s=C0h gl0 c225 s.1.1 s.1.2.1:=by kernel_rfl
end
noncomputable def D7l (c213:TI→Option B0M) (c214:ByteArray→Option A5a) (c215:ByteArray→ByteArray→Option A0X):List FE:=[D1D c213,C0w c214,C8F c215]
section
variable (c213:TI→Option B0M) (c214:ByteArray→Option A5a) (c215:ByteArray→ByteArray→Option A0X)
noncomputable def A2Y (x0:TQ):Option B0t:=(c213 x0.1).bind fun r1=>((c214 x0.2).bind fun r2=>(if r1=1 then(some 1)else(if r2=1 then(some 1)else(B3 ((F0 x0.2 (⟨#[]⟩:ByteArray))) (some 1) (if r1≠0 then(some r1)else(if r2≠0 then(some r2)else(B3 ((!(F0 x0.2 (⟨#[1]⟩:ByteArray)))) ((c215 x0.1.2 x0.2).bind fun r3=>(B3 ((!(F0 r3 (⟨#[1]⟩:ByteArray)))) (some 1) (some 0))) (some 0))))))))
theorem F0l (s:B7s.ask.T):B7s.ev E0 (D7l c213 c214 c215) [] s=A2Y c213 c214 c215 s.1.1:=by kernel_rfl
end
noncomputable def C1a:Sk:=⟨[(0, .d (.li tQ)),(9, .d (.li tQ)),(10, .d (.it .i64)),(11, .d (.it .i64))],[]⟩
noncomputable def C6w (gl0:TP→TP→Int→Int→Option A0y):List (D3 A0y):=[⟨4,C1a,fun s=>gl0 s.1.1 s.1.2.1 s.1.2.2.1 s.1.2.2.2.1⟩]
noncomputable def C8j (c152:TQ→Option A1O) (c172:TQ→Option B0t):List FE:=[B2g c152,D0G c172]
section
variable (gl0:TP→TP→Int→Int→Option A0y) (c152:TQ→Option A1O) (c172:TQ→Option B0t)
noncomputable def A7v (x0:TP) (x9:TP) (x10:Int) (x11:Int):Option A0y:=if x11<x10 then(if 0≤x11 then(if x11<(x9.length:Int)then((c172 (C5 ((false,(⟨#[]⟩:ByteArray)),(⟨#[]⟩:ByteArray)) x9 x11)).bind fun r1=>(if r1≠0 then(some r1)else(gl0 x0 x9 x10 (wrap64 (x11+1)))))else(none))else(none))else(if(x0.length:Int)>0 then(if 0≤wrap64 ((x0.length:Int)-1)then(if wrap64 ((x0.length:Int)-1)<(x0.length:Int)then((c152 (C5 ((false,(⟨#[]⟩:ByteArray)),(⟨#[]⟩:ByteArray)) x0 (wrap64 ((x0.length:Int)-1)))).bind fun r2=>(B3 (r2) (some 1) (some 0)))else(none))else(none))else(some 0))
theorem E8z (s0:C6 B1R.ask.bl) (s:C1a.T):B1R.po E0 (C8j c152 c172) (C6w gl0) s0 0 (C1a.mk' s)=A7v gl0 c152 c172 s.1.1 s.1.2.1 s.1.2.2.1 s.1.2.2.2.1:=by kernel_rfl
noncomputable def B3S (x0:TP):Option A0y:=if(x0.length:Int)>65 then(some 4)else(gl0 x0 x0 (x0.length:Int) 0)
theorem E2j (s:B1R.ask.T):B1R.ev E0 (C8j c152 c172) (C6w gl0) s=B3S gl0 s.1.1:=by kernel_rfl
end
noncomputable def C3H (x0:TQ):Option B1Z:=some (F0 x0.2 (⟨#[1]⟩:ByteArray))
theorem E9a (s:B5V.ask.T):B5V.ev E0 [] [] s=C3H s.1.1:=by kernel_rfl
noncomputable def D6z (c171:TQ→Option B1Z):List FE:=[D3j c171]
section
variable (c171:TQ→Option B1Z)
noncomputable def C1z (x0:TQ):Option B1C:=(c171 x0).bind fun r1=>(some (!r1))
theorem E7F (s:B9x.ask.T):B9x.ev E0 (D6z c171) [] s=C1z c171 s.1.1:=by kernel_rfl
end
noncomputable def C1g:Sk:=⟨[(0, .d (.li tQ)),(1, .f (.cl 170 [])),(7, .d (.it .i64)),(8, .d (.it .i64))],[]⟩
noncomputable def C0g (gl0:TP→Int→Int→Option A2A):List (D3 A2A):=[⟨2,C1g,fun s=>gl0 s.1.1 s.1.2.1 s.1.2.2.1⟩]
noncomputable def C8P (c170:TQ→Option B1C):List FE:=[D1y c170]
section
variable (gl0:TP→Int→Int→Option A2A) (c170:TQ→Option B1C)
noncomputable def A7n (x0:TP) (x7:Int) (x8:Int):Option A2A:=if x8<x7 then(if 0≤x8 then(if x8<(x0.length:Int)then((c170 (C5 ((false,(⟨#[]⟩:ByteArray)),(⟨#[]⟩:ByteArray)) x0 x8)).bind fun r1=>(B3 (r1) (some x8) (gl0 x0 x7 (wrap64 (x8+1)))))else(none))else(none))else(some (-1))
theorem E2h (s0:C6 B1S.ask.bl) (s:C1g.T):B1S.po E0 (C8P c170) (C0g gl0) s0 0 (C1g.mk' s)=A7n gl0 c170 s.1.1 s.1.2.1 s.1.2.2.1:=by kernel_rfl
noncomputable def B3V (x0:TP):Option A2A:=gl0 x0 (x0.length:Int) 0
theorem F2m (s:B1S.ask.T):B1S.ev E0 (C8P c170) (C0g gl0) s=B3V gl0 s.1.1:=by kernel_rfl
end
noncomputable def D8o (c194Form:TP→Option A2A):List FE:=[D3Y c194Form]
section
variable (c194Form:TP→Option A2A)
noncomputable def C2h (x0:TP):Option A9I:=(c194Form x0).bind fun r1=>(some (decide (r1≥0)))
theorem F1O (s:B6E.ask.T):B6E.ev E0 (D8o c194Form) [] s=C2h c194Form s.1.1:=by kernel_rfl
end
noncomputable def D4N (c89:Int→Option Y7) (c120:TP→Option A0y) (c153Form:TP→Option A9I):List FE:=[A5s c89,C0f c120,D2n c153Form]
section
variable (c89:Int→Option Y7) (c120:TP→Option A0y) (c153Form:TP→Option A9I)
noncomputable def B3A (x0:TP):Option A9g:=(c120 x0).bind fun r1=>(if r1≠0 then(some r1)else(if wrap64 ((x0.length:Int)-1)<1 then(some 1)else(if 0≤wrap64 ((x0.length:Int)-1)then(if wrap64 ((x0.length:Int)-1)<(x0.length:Int)then((c89 1).bind fun r2=>(B3 ((!((((((C5 ((false,(⟨#[]⟩:ByteArray)),(⟨#[]⟩:ByteArray)) x0 (wrap64 ((x0.length:Int)-1))).1).1)==r2.1.1)&&(F0 (((C5 ((false,(⟨#[]⟩:ByteArray)),(⟨#[]⟩:ByteArray)) x0 (wrap64 ((x0.length:Int)-1))).1).2) r2.1.2))&&(F0 ((C5 ((false,(⟨#[]⟩:ByteArray)),(⟨#[]⟩:ByteArray)) x0 (wrap64 ((x0.length:Int)-1))).2) r2.2)))) (some 1) ((c153Form x0).bind fun r3=>(B3 (r3) (some 1) (if wrap64 ((x0.length:Int)-1)>24 then(some 4)else(some 0))))))else(none))else(none))))
theorem E6w (s:B5t.ask.T):B5t.ev E0 (D4N c89 c120 c153Form) [] s=B3A c89 c120 c153Form s.1.1:=by kernel_rfl
end
noncomputable def D2h (c120:TP→Option A0y):List FE:=[C0f c120]
section
variable (c120:TP→Option A0y)
noncomputable def B2o (x0:TP) (x1:TP):Option A3f:=(c120 x1).bind fun r1=>(if r1≠0 then(some r1)else(if(x1.length:Int)≥(x0.length:Int)then(some 3)else(some 0)))
theorem E0f (s:B6q.ask.T):B6q.ev E0 (D2h c120) [] s=B2o c120 s.1.1 s.1.2.1:=by kernel_rfl
end
noncomputable def C2v:Sk:=⟨[(1, .d (.li (.li tQ))),(2, .f (.a (.ptr 2 0 []))),(11, .d (.li (.li tQ))),(12, .d (.it .i64)),(13, .d (.it .i64))],[(2, .cell (.ag (.li tQ)) true)]⟩
noncomputable def C8D (gl0:TF→TF→Int→Int→TP→Option A2p):List (D3 A2p):=[⟨4,C2v,fun s=>gl0 s.1.1 s.1.2.1 s.1.2.2.1 s.1.2.2.2.1 s.2.1⟩]
noncomputable def C8W (c124:TP→TP→Option A3f):List FE:=[B8a c124]
section
variable (gl0:TF→TF→Int→Int→TP→Option A2p) (c124:TP→TP→Option A3f)
noncomputable def A7b (x1:TF) (x11:TF) (x12:Int) (x13:Int) (x2:TP):Option A2p:=if x13<x12 then(if 0≤x13 then(if x13<(x11.length:Int)then((c124 x2 (C5 ([]:List TQ) x11 x13)).bind fun r1=>(if r1≠0 then(some r1)else(gl0 x1 x11 x12 (wrap64 (x13+1)) x2)))else(none))else(none))else(if(x1.length:Int)>0 then(if 0≤wrap64 ((x1.length:Int)-1)then(if wrap64 ((x1.length:Int)-1)<(x1.length:Int)then(if((C5 ([]:List TQ) x1 (wrap64 ((x1.length:Int)-1))).length:Int)=0 then(some 1)else(some 0))else(none))else(none))else(some 0))
theorem E2f (s0:C6 B0v.ask.bl) (s:C2v.T):B0v.po E0 (C8W c124) (C8D gl0) s0 0 (C2v.mk' s)=A7b gl0 c124 s.1.1 s.1.2.1 s.1.2.2.1 s.1.2.2.2.1 s.2.1:=by kernel_rfl
noncomputable def B4w (x0:TP) (x1:TF):Option A2p:=if(x1.length:Int)>65 then(some 4)else(gl0 x1 x1 (x1.length:Int) 0 x0)
theorem E6W (s:B0v.ask.T):B0v.ev E0 (C8W c124) (C8D gl0) s=B4w gl0 s.1.1 s.1.2.1:=by kernel_rfl
end
noncomputable def C1k:Sk:=⟨[(2, .f (.a (.ptr 2 0 []))),(14, .d (.li (.li (.li tQ)))),(15, .d (.it .i64)),(16, .d (.it .i64))],[(2, .cell (.ag (.li tQ)) true)]⟩
noncomputable def C0y (gl0:(List TF)→Int→Int→TP→Option U3):List (D3 U3):=[⟨5,C1k,fun s=>gl0 s.1.1 s.1.2.1 s.1.2.2.1 s.2.1⟩]
noncomputable def C6l (c119:TP→Option A9g) (c138:TP→TF→Option A2p):List FE:=[D1A c119,D7f c138]
section
variable (gl0:(List TF)→Int→Int→TP→Option U3) (c119:TP→Option A9g) (c138:TP→TF→Option A2p)
noncomputable def A7C (x14:(List TF)) (x15:Int) (x16:Int) (x2:TP):Option U3:=if x16<x15 then(if 0≤x16 then(if x16<(x14.length:Int)then((c138 x2 (C5 ([]:List TP) x14 x16)).bind fun r1=>(if r1≠0 then(some r1)else(gl0 x14 x15 (wrap64 (x16+1)) x2)))else(none))else(none))else(some 0)
theorem E7M (s0:C6 D83.ask.bl) (s:C1k.T):D83.po E0 (C6l c119 c138) (C0y gl0) s0 0 (C1k.mk' s)=A7C gl0 c138 s.1.1 s.1.2.1 s.1.2.2.1 s.2.1:=by kernel_rfl
noncomputable def B83 (x0:TP) (x1:(List TF)):Option U3:=(c119 x0).bind fun r1=>(if r1≠0 then(some r1)else(gl0 x1 (x1.length:Int) 0 x0))
theorem e83 (s:D83.ask.T):D83.ev E0 (C6l c119 c138) (C0y gl0) s=B83 gl0 c119 s.1.1 s.1.2.1:=by kernel_rfl
end
noncomputable def C1B:Sk:=⟨[(1, .d (.li (.it .u64))),(5, .f (.a (.ref 5))),(20, .d (.li (.it .u64))),(21, .d (.it .i64)),(22, .d (.it .i64))],[(5, .own (.it .u64) true)]⟩
noncomputable def C4Z:Sk:=⟨[(1, .d (.li (.it .u64))),(5, .f (.a (.ref 5))),(6, .d (.it .i64)),(7, .d (.it .u64)),(8, .d (.it .u64)),(20, .d (.li (.it .u64))),(21, .d (.it .i64)),(22, .d (.it .i64)),(27, .d (.li (.it .u64))),(28, .d (.it .i64)),(29, .d (.it .i64))],[(5, .own (.it .u64) true)]⟩
noncomputable def B6l (gl0:(List Int)→(List Int)→Int→Int→(List Int)→Option Z1) (gl1:(List Int)→Int→Int→Int→(List Int)→Int→Int→(List Int)→Int→Int→(List Int)→Option Z1):List (D3 Z1):=[⟨3,C1B,fun s=>gl0 s.1.1 s.1.2.1 s.1.2.2.1 s.1.2.2.2.1 s.2.1⟩,⟨7,C4Z,fun s=>gl1 s.1.1 s.1.2.1 s.1.2.2.1 s.1.2.2.2.1 s.1.2.2.2.2.1 s.1.2.2.2.2.2.1 s.1.2.2.2.2.2.2.1 s.1.2.2.2.2.2.2.2.1 s.1.2.2.2.2.2.2.2.2.1 s.1.2.2.2.2.2.2.2.2.2.1 s.2.1⟩]
noncomputable def B8i (c245:(List Int)→Option s7) (c246:Int→Int→Option A5m) (c247:Int→Int→Int→Option A5K):List FE:=[B8J c245,C4i c246,B8R c247]
section
variable (gl0:(List Int)→(List Int)→Int→Int→(List Int)→Option Z1) (gl1:(List Int)→Int→Int→Int→(List Int)→Int→Int→(List Int)→Int→Int→(List Int)→Option Z1) (c245:(List Int)→Option s7) (c246:Int→Int→Option A5m) (c247:Int→Int→Int→Option A5K)
noncomputable def C5B (x1:(List Int)) (x20:(List Int)) (x21:Int) (x22:Int) (x5:(List Int)):Option Z1:=if x22<x21 then(if 0≤x22 then(if x22<(x20.length:Int)then(gl1 x1 x22 (rd x20 x22) 0 x20 x21 x22 x1 (x1.length:Int) 0 x5)else(none))else(none))else((c245 x5).bind fun r1=>(some (r1.2.take (r1.1:Int).toNat)))
theorem E3G (s0:C6 A5z.ask.bl) (s:C1B.T):A5z.po E0 (B8i c245 c246 c247) (B6l gl0 gl1) s0 0 (C1B.mk' s)=C5B gl1 c245 s.1.1 s.1.2.1 s.1.2.2.1 s.1.2.2.2.1 s.2.1:=by kernel_rfl
noncomputable def C4w (x1:(List Int)) (x6:Int) (x7:Int) (x8:Int) (x20:(List Int)) (x21:Int) (x22:Int) (x27:(List Int)) (x28:Int) (x29:Int) (x5:(List Int)):Option Z1:=if x29<x28 then(if 0≤x29 then(if x29<(x27.length:Int)then((c246 x7 (rd x27 x29)).bind fun r1=>(if 0≤wrap64 (x6+x29)then(if wrap64 (x6+x29)<(x5.length:Int)then((c247 r1.2 (rd x5 (wrap64 (x6+x29))) 0).bind fun r2=>((c247 r2.1 x8 0).bind fun r3=>(if 0≤wrap64 (x6+x29)then(if wrap64 (x6+x29)<(x5.length:Int)then(gl1 x1 x6 x7 (IntKind.u64.wrap ((IntKind.u64.wrap (r1.1+r2.2))+r3.2)) x20 x21 x22 x27 x28 (wrap64 (x29+1)) (x5.set (wrap64 (x6+x29):Int).toNat r3.1))else(none))else(none))))else(none))else(none)))else(none))else(none))else(if 0≤wrap64 (x6+(x1.length:Int))then(if wrap64 (x6+(x1.length:Int))<(x5.length:Int)then(gl0 x1 x20 x21 (wrap64 (x22+1)) (x5.set (wrap64 (x6+(x1.length:Int)):Int).toNat x8))else(none))else(none))
theorem D9D (s0:C6 A5z.ask.bl) (s:C4Z.T):A5z.po E0 (B8i c245 c246 c247) (B6l gl0 gl1) s0 1 (C4Z.mk' s)=C4w gl0 gl1 c246 c247 s.1.1 s.1.2.1 s.1.2.2.1 s.1.2.2.2.1 s.1.2.2.2.2.1 s.1.2.2.2.2.2.1 s.1.2.2.2.2.2.2.1 s.1.2.2.2.2.2.2.2.1 s.1.2.2.2.2.2.2.2.2.1 s.1.2.2.2.2.2.2.2.2.2.1 s.2.1:=by kernel_rfl
noncomputable def C6r (x0:(List Int)) (x1:(List Int)):Option Z1:=if 0≤wrap64 ((x0.length:Int)+(x1.length:Int))then(if wrap64 ((x0.length:Int)+(x1.length:Int))≤wrap64 ((x0.length:Int)+(x1.length:Int))then(if(wrap64 ((x0.length:Int)+(x1.length:Int)):Int).toNat≤35184372088832 then(gl0 x1 x0 (x0.length:Int) 0 (List.replicate (wrap64 ((x0.length:Int)+(x1.length:Int)):Int).toNat (0:Int)))else(none))else(none))else(none)
theorem E6y (s:A5z.ask.T):A5z.ev E0 (B8i c245 c246 c247) (B6l gl0 gl1) s=C6r gl0 s.1.1 s.1.2.1:=by kernel_rfl
end
noncomputable def D6W (c223:(List Int)→Option L8) (c224:(List Int)→(List Int)→Option Z1) (c225:ByteArray→Option V7):List FE:=[A5o c223,C7U c224,A6y c225]
section
variable (c223:(List Int)→Option L8) (c224:(List Int)→(List Int)→Option Z1) (c225:ByteArray→Option V7)
noncomputable def C2i (x0:ByteArray) (x1:ByteArray):Option A3P:=(c225 x0).bind fun r1=>((c225 x1).bind fun r2=>((c224 r1 r2).bind fun r3=>((c223 r3).bind fun r4=>(some r4))))
theorem E2S (s:B7S.ask.T):B7S.ev E0 (D6W c223 c224 c225) [] s=C2i c223 c224 c225 s.1.1 s.1.2.1:=by kernel_rfl
end
noncomputable def C1x (x0:Bool) (x1:ByteArray):Option n9:=B3 (x0) (some ((!(F0 x1 (⟨#[]⟩:ByteArray))),x1)) (some (false,x1))
theorem F3j (s:B8T.ask.T):B8T.ev E0 [] [] s=C1x s.1.1 s.1.2.1:=by kernel_rfl
noncomputable def D4e (c186:ByteArray→ByteArray→Option A3P) (c192:Bool→ByteArray→Option n9):List FE:=[C0H c186,A7g c192]
section
variable (c186:ByteArray→ByteArray→Option A3P) (c192:Bool→ByteArray→Option n9)
noncomputable def C5u (x0:TI) (x1:TI):Option A9m:=(c186 x0.2 x1.2).bind fun r1=>((c192 (!(x0.1==x1.1)) r1).bind fun r2=>(some (r2.1,r2.2)))
theorem F0D (s:B6Y.ask.T):B6Y.ev E0 (D4e c186 c192) [] s=C5u c186 c192 s.1.1 s.1.2.1:=by kernel_rfl
end
noncomputable def D7t (c223:(List Int)→Option L8) (c225:ByteArray→Option V7) (c244:(List Int)→(List Int)→Option V6):List FE:=[A5o c223,A6y c225,C1J c244]
section
variable (c223:(List Int)→Option L8) (c225:ByteArray→Option V7) (c244:(List Int)→(List Int)→Option V6)
noncomputable def C8O (x0:ByteArray) (x1:ByteArray):Option A9X:=(c225 x0).bind fun r1=>((c225 x1).bind fun r2=>((c244 r1 r2).bind fun r3=>((c223 r3.1).bind fun r4=>((c223 r3.2).bind fun r5=>(some (r4,r5))))))
theorem F6b (s:B8H.ask.T):B8H.ev E0 (D7t c223 c225 c244) [] s=C8O c223 c225 c244 s.1.1 s.1.2.1:=by kernel_rfl
end
noncomputable def D6a (c192:Bool→ByteArray→Option n9) (c215:ByteArray→ByteArray→Option A0X) (c222:ByteArray→ByteArray→Option A9X):List FE:=[A7g c192,C8F c215,D5Z c222]
section
variable (c192:Bool→ByteArray→Option n9) (c215:ByteArray→ByteArray→Option A0X) (c222:ByteArray→ByteArray→Option A9X)
noncomputable def B3a (x0:TI) (x1:TI):Option A5n:=(c215 x0.2 x1.2).bind fun r1=>(B3 ((!(F0 r1 (⟨#[1]⟩:ByteArray)))) ((c222 x0.2 r1).bind fun r2=>((c222 x1.2 r1).bind fun r3=>((c192 (!(x0.1==x1.1)) r2.1).bind fun r4=>(some ((r4.1,r4.2),r3.1))))) ((c192 (!(x0.1==x1.1)) x0.2).bind fun r5=>(some ((r5.1,r5.2),x1.2))))
theorem E7o (s:B7D.ask.T):B7D.ev E0 (D6a c192 c215 c222) [] s=B3a c192 c215 c222 s.1.1 s.1.2.1:=by kernel_rfl
end
noncomputable def D8M (c149:TI→Option A3C) (c184:TI→TI→Option A9m) (c185:TI→TI→Option A5n) (c186:ByteArray→ByteArray→Option A3P):List FE:=[B6J c149,D4f c184,C9t c185,C0H c186]
section
variable (c149:TI→Option A3C) (c184:TI→TI→Option A9m) (c185:TI→TI→Option A5n) (c186:ByteArray→ByteArray→Option A3P)
noncomputable def B2I (x0:TQ) (x1:TQ):Option w8:=B3 ((F0 x0.2 (⟨#[1]⟩:ByteArray))) (B3 ((F0 x1.2 (⟨#[1]⟩:ByteArray))) ((c184 x0.1 x1.1).bind fun r1=>((c149 (r1.1,r1.2)).bind fun r2=>(some (r2.1,r2.2)))) ((c184 x0.1 x1.1).bind fun r3=>((c186 x0.2 x1.2).bind fun r4=>((c185 (r3.1,r3.2) (false,r4)).bind fun r5=>(some (r5.1,r5.2)))))) ((c184 x0.1 x1.1).bind fun r6=>((c186 x0.2 x1.2).bind fun r7=>((c185 (r6.1,r6.2) (false,r7)).bind fun r8=>(some (r8.1,r8.2)))))
theorem F0s (s:B5Q.ask.T):B5Q.ev E0 (D8M c149 c184 c185 c186) [] s=B2I c149 c184 c185 c186 s.1.1 s.1.2.1:=by kernel_rfl
end
noncomputable def C7l:Sk:=⟨[(1, .d (.it .i64)),(5, .d (.li (.it .u64))),(6, .d (.li (.it .u64)))],[]⟩
noncomputable def C9A (gl0:Int→(List Int)→(List Int)→Option A0q):List (D3 A0q):=[⟨2,C7l,fun s=>gl0 s.1.1 s.1.2.1 s.1.2.2.1⟩]
noncomputable def C2J (c223:(List Int)→Option L8) (c224:(List Int)→(List Int)→Option Z1) (c225:ByteArray→Option V7):List FE:=[A5o c223,C7U c224,A6y c225]
section
variable (gl0:Int→(List Int)→(List Int)→Option A0q) (c223:(List Int)→Option L8) (c224:(List Int)→(List Int)→Option Z1) (c225:ByteArray→Option V7)
noncomputable def C7c (x1:Int) (x5:(List Int)) (x6:(List Int)):Option A0q:=if x1>0 then(if Go.bits .and .i64 x1 1=1 then((c224 x5 x6).bind fun r1=>((c224 x6 x6).bind fun r2=>(if(0:Int)≤1 then(gl0 (x1/2) r1 r2)else(none))))else((c224 x6 x6).bind fun r3=>(if(0:Int)≤1 then(gl0 (x1/2) x5 r3)else(none))))else((c223 x5).bind fun r4=>(some r4))
theorem E8Q (s0:C6 B0A.ask.bl) (s:C7l.T):B0A.po E0 (C2J c223 c224 c225) (C9A gl0) s0 0 (C7l.mk' s)=C7c gl0 c223 c224 s.1.1 s.1.2.1 s.1.2.2.1:=by kernel_rfl
noncomputable def C2L (x0:ByteArray) (x1:Int):Option A0q:=(c225 x0).bind fun r1=>(gl0 x1 ([1]:List Int) r1)
theorem E9h (s:B0A.ask.T):B0A.ev E0 (C2J c223 c224 c225) (C9A gl0) s=C2L gl0 c225 s.1.1 s.1.2.1:=by kernel_rfl
end
noncomputable def D1s (c188:ByteArray→Int→Option A0q) (c192:Bool→ByteArray→Option n9):List FE:=[C7x c188,A7g c192]
section
variable (c188:ByteArray→Int→Option A0q) (c192:Bool→ByteArray→Option n9)
noncomputable def C4L (x0:TI) (x1:Int):Option B1A:=B3 (x0.1) (if(2:Int)=0 then(none)else((c188 x0.2 x1).bind fun r1=>((c192 (decide (Int.tmod x1 2=1)) r1).bind fun r2=>(some (r2.1,r2.2))))) ((c188 x0.2 x1).bind fun r3=>((c192 false r3).bind fun r4=>(some (r4.1,r4.2))))
theorem F3z (s:B9j.ask.T):B9j.ev E0 (D1s c188 c192) [] s=C4L c188 c192 s.1.1 s.1.2.1:=by kernel_rfl
end
noncomputable def D2O (c187:TI→Int→Option B1A) (c188:ByteArray→Int→Option A0q):List FE:=[D5E c187,C7x c188]
section
variable (c187:TI→Int→Option B1A) (c188:ByteArray→Int→Option A0q)
noncomputable def C1v (x0:TQ) (x1:Int):Option A9U:=(c187 x0.1 x1).bind fun r1=>((c188 x0.2 x1).bind fun r2=>(some ((r1.1,r1.2),r2)))
theorem E8O (s:B6T.ask.T):B6T.ev E0 (D2O c187 c188) [] s=C1v c187 c188 s.1.1 s.1.2.1:=by kernel_rfl
end
noncomputable def D0q (c192:Bool→ByteArray→Option n9):List FE:=[A7g c192]
section
variable (c192:Bool→ByteArray→Option n9)
noncomputable def C9F (x0:TI):Option B1T:=(c192 (!x0.1) x0.2).bind fun r1=>(some (r1.1,r1.2))
theorem E3U (s:B6G.ask.T):B6G.ev E0 (D0q c192) [] s=C9F c192 s.1.1:=by kernel_rfl
end
noncomputable def D1q (c190:TI→Option B1T):List FE:=[D5i c190]
section
variable (c190:TI→Option B1T)
noncomputable def B7y (x0:TQ):Option A5l:=(c190 x0.1).bind fun r1=>(some ((r1.1,r1.2),x0.2))
theorem E8t (s:B7C.ask.T):B7C.ev E0 (D1q c190) [] s=B7y c190 s.1.1:=by kernel_rfl
end
noncomputable def C1K:Sk:=⟨[(5, .f (.a (.ref 5))),(6, .f (.a (.ref 6))),(7, .f (.a (.ref 7))),(8, .d (.it .u64)),(27, .d (.it .i64)),(28, .d (.it .i64))],[(5, .own (.it .u64) true),(6, .own (.it .u64) true),(7, .own (.it .u64) true)]⟩
noncomputable def C8B (gl0:Int→Int→Int→(List Int)→(List Int)→(List Int)→Option A2c):List (D3 A2c):=[⟨7,C1K,fun s=>gl0 s.1.1 s.1.2.1 s.1.2.2.1 s.2.1 s.2.2.1 s.2.2.2.1⟩]
noncomputable def C9H (c223:(List Int)→Option L8) (c225:ByteArray→Option V7) (c247:Int→Int→Int→Option A5K):List FE:=[A5o c223,A6y c225,B8R c247]
section
variable (gl0:Int→Int→Int→(List Int)→(List Int)→(List Int)→Option A2c) (c223:(List Int)→Option L8) (c225:ByteArray→Option V7) (c247:Int→Int→Int→Option A5K)
noncomputable def C2l (x8:Int) (x27:Int) (x28:Int) (x5:(List Int)) (x6:(List Int)) (x7:(List Int)):Option A2c:=if x28<x27 then(if x28<(x6.length:Int)then(if 0≤x28 then(if x28<(x6.length:Int)then(if 0≤x28 then(if x28<(x5.length:Int)then((c247 (rd x5 x28) (rd x6 x28) x8).bind fun r1=>(if 0≤x28 then(if x28<(x7.length:Int)then(gl0 r1.2 x27 (wrap64 (x28+1)) x5 x6 (x7.set (x28:Int).toNat r1.1))else(none))else(none)))else(none))else(none))else(none))else(none))else(if 0≤x28 then(if x28<(x5.length:Int)then((c247 (rd x5 x28) 0 x8).bind fun r2=>(if 0≤x28 then(if x28<(x7.length:Int)then(gl0 r2.2 x27 (wrap64 (x28+1)) x5 x6 (x7.set (x28:Int).toNat r2.1))else(none))else(none)))else(none))else(none)))else(if 0≤(x5.length:Int)then(if(x5.length:Int)<(x7.length:Int)then((c223 (x7.set ((x5.length:Int):Int).toNat x8)).bind fun r3=>(some r3))else(none))else(none))
theorem E9k (s0:C6 B1O.ask.bl) (s:C1K.T):B1O.po E0 (C9H c223 c225 c247) (C8B gl0) s0 0 (C1K.mk' s)=C2l gl0 c223 c247 s.1.1 s.1.2.1 s.1.2.2.1 s.2.1 s.2.2.1 s.2.2.2.1:=by kernel_rfl
noncomputable def C5l (x0:ByteArray) (x1:ByteArray):Option A2c:=(c225 x0).bind fun r1=>((c225 x1).bind fun r2=>(if(r1.length:Int)<(r2.length:Int)then(if 0≤wrap64 ((r2.length:Int)+1)then(if wrap64 ((r2.length:Int)+1)≤wrap64 ((r2.length:Int)+1)then(if(wrap64 ((r2.length:Int)+1):Int).toNat≤35184372088832 then(gl0 0 (r2.length:Int) 0 r2 r1 (List.replicate (wrap64 ((r2.length:Int)+1):Int).toNat (0:Int)))else(none))else(none))else(none))else(if 0≤wrap64 ((r1.length:Int)+1)then(if wrap64 ((r1.length:Int)+1)≤wrap64 ((r1.length:Int)+1)then(if(wrap64 ((r1.length:Int)+1):Int).toNat≤35184372088832 then(gl0 0 (r1.length:Int) 0 r1 r2 (List.replicate (wrap64 ((r1.length:Int)+1):Int).toNat (0:Int)))else(none))else(none))else(none))))
theorem F3L (s:B1O.ask.T):B1O.ev E0 (C9H c223 c225 c247) (C8B gl0) s=C5l gl0 c225 s.1.1 s.1.2.1:=by kernel_rfl
end
noncomputable def C7R (x0:ByteArray) (x1:ByteArray):Option B0B:=if(x0.size:Int)<(x1.size:Int)then(some (-1))else(if(x0.size:Int)=(x1.size:Int)then(B3 ((Op.bytesLess x0.toList x1.toList)) (some (-1)) (B3 ((F0 x0 x1)) (some 0) (some 1)))else(B3 ((F0 x0 x1)) (some 0) (some 1)))
theorem F2w (s:B7d.ask.T):B7d.ev E0 [] [] s=C7R s.1.1 s.1.2.1:=by kernel_rfl
noncomputable def C0L:Sk:=⟨[(5, .f (.a (.ref 5))),(6, .f (.a (.ref 6))),(7, .d (.it .u64)),(15, .d (.it .i64)),(16, .d (.it .i64))],[(5, .own (.it .u64) true),(6, .own (.it .u64) true)]⟩
noncomputable def C0J (gl0:Int→Int→Int→(List Int)→(List Int)→Option A2E):List (D3 A2E):=[⟨4,C0L,fun s=>gl0 s.1.1 s.1.2.1 s.1.2.2.1 s.2.1 s.2.2.1⟩]
noncomputable def C4O (c223:(List Int)→Option L8) (c225:ByteArray→Option V7) (c248:Int→Int→Int→Option A7R):List FE:=[A5o c223,A6y c225,C1D c248]
section
variable (gl0:Int→Int→Int→(List Int)→(List Int)→Option A2E) (c223:(List Int)→Option L8) (c225:ByteArray→Option V7) (c248:Int→Int→Int→Option A7R)
noncomputable def C5h (x7:Int) (x15:Int) (x16:Int) (x5:(List Int)) (x6:(List Int)):Option A2E:=if x16<x15 then(if x16<(x6.length:Int)then(if 0≤x16 then(if x16<(x6.length:Int)then(if 0≤x16 then(if x16<(x5.length:Int)then((c248 (rd x5 x16) (rd x6 x16) x7).bind fun r1=>(if 0≤x16 then(if x16<(x5.length:Int)then(gl0 r1.2 x15 (wrap64 (x16+1)) (x5.set (x16:Int).toNat r1.1) x6)else(none))else(none)))else(none))else(none))else(none))else(none))else(if 0≤x16 then(if x16<(x5.length:Int)then((c248 (rd x5 x16) 0 x7).bind fun r2=>(if 0≤x16 then(if x16<(x5.length:Int)then(gl0 r2.2 x15 (wrap64 (x16+1)) (x5.set (x16:Int).toNat r2.1) x6)else(none))else(none)))else(none))else(none)))else((c223 x5).bind fun r3=>(some r3))
theorem E2W (s0:C6 A9s.ask.bl) (s:C0L.T):A9s.po E0 (C4O c223 c225 c248) (C0J gl0) s0 0 (C0L.mk' s)=C5h gl0 c223 c248 s.1.1 s.1.2.1 s.1.2.2.1 s.2.1 s.2.2.1:=by kernel_rfl
noncomputable def C1M (x0:ByteArray) (x1:ByteArray):Option A2E:=(c225 x0).bind fun r1=>((c225 x1).bind fun r2=>(gl0 0 (r1.length:Int) 0 r1 r2))
theorem F6k (s:A9s.ask.T):A9s.ev E0 (C4O c223 c225 c248) (C0J gl0) s=C1M gl0 c225 s.1.1 s.1.2.1:=by kernel_rfl
end
noncomputable def D5q (c192:Bool→ByteArray→Option n9) (c226:ByteArray→ByteArray→Option A2c) (c227:ByteArray→ByteArray→Option B0B) (c228:ByteArray→ByteArray→Option A2E):List FE:=[A7g c192,D8l c226,D6u c227,D2Z c228]
section
variable (c192:Bool→ByteArray→Option n9) (c226:ByteArray→ByteArray→Option A2c) (c227:ByteArray→ByteArray→Option B0B) (c228:ByteArray→ByteArray→Option A2E)
noncomputable def C8X (x0:TI) (x1:TI):Option B1k:=B3 ((x0.1==x1.1)) ((c226 x0.2 x1.2).bind fun r1=>((c192 x0.1 r1).bind fun r2=>(some (r2.1,r2.2)))) ((c227 x0.2 x1.2).bind fun r3=>(if r3<0 then((c228 x1.2 x0.2).bind fun r4=>((c192 x1.1 r4).bind fun r5=>(some (r5.1,r5.2))))else((c228 x0.2 x1.2).bind fun r6=>((c192 x0.1 r6).bind fun r7=>(some (r7.1,r7.2))))))
theorem E5c (s:B8t.ask.T):B8t.ev E0 (D5q c192 c226 c227 c228) [] s=C8X c192 c226 c227 c228 s.1.1 s.1.2.1:=by kernel_rfl
end
noncomputable def D4c (c149:TI→Option A3C) (c185:TI→TI→Option A5n) (c186:ByteArray→ByteArray→Option A3P) (c191:TI→TI→Option B1k) (c192:Bool→ByteArray→Option n9):List FE:=[B6J c149,C9t c185,C0H c186,D2j c191,A7g c192]
section
variable (c149:TI→Option A3C) (c185:TI→TI→Option A5n) (c186:ByteArray→ByteArray→Option A3P) (c191:TI→TI→Option B1k) (c192:Bool→ByteArray→Option n9)
noncomputable def B0T (x0:TQ) (x1:TQ):Option A3s:=B3 ((F0 x0.2 x1.2)) (B3 ((F0 x0.2 (⟨#[1]⟩:ByteArray))) ((c191 x0.1 x1.1).bind fun r1=>((c149 (r1.1,r1.2)).bind fun r2=>(some (r2.1,r2.2)))) ((c191 x0.1 x1.1).bind fun r3=>((c185 (r3.1,r3.2) (false,x0.2)).bind fun r4=>(some (r4.1,r4.2))))) ((c186 x0.1.2 x1.2).bind fun r5=>((c192 x0.1.1 r5).bind fun r6=>((c186 x1.1.2 x0.2).bind fun r7=>((c192 x1.1.1 r7).bind fun r8=>((c191 (r6.1,r6.2) (r8.1,r8.2)).bind fun r9=>((c186 x0.2 x1.2).bind fun r10=>((c185 (r9.1,r9.2) (false,r10)).bind fun r11=>(some (r11.1,r11.2)))))))))
theorem E6E (s:B9Q.ask.T):B9Q.ev E0 (D4c c149 c185 c186 c191 c192) [] s=B0T c149 c185 c186 c191 c192 s.1.1 s.1.2.1:=by kernel_rfl
end
noncomputable def D1X (c145:TQ→Option A5l) (c148:TQ→TQ→Option A3s):List FE:=[C7C c145,B5g c148]
section
variable (c145:TQ→Option A5l) (c148:TQ→TQ→Option A3s)
noncomputable def B88 (x0:TQ) (x1:TQ):Option R88:=(c145 x1).bind fun r1=>((c148 x0 (r1.1,r1.2)).bind fun r2=>(some (r2.1,r2.2)))
theorem e88 (s:D88.ask.T):D88.ev E0 (D1X c145 c148) [] s=B88 c145 c148 s.1.1 s.1.2.1:=by kernel_rfl
end
noncomputable def C2w:Sk:=⟨[(0, .d (.li tQ)),(3, .d (.it .i64))],[]⟩
noncomputable def C5P (gl0:TP→Int→Option R7):List (D3 R7):=[⟨2,C2w,fun s=>gl0 s.1.1 s.1.2.1⟩]
noncomputable def C2x (c152:TQ→Option A1O):List FE:=[B2g c152]
section
variable (gl0:TP→Int→Option R7) (c152:TQ→Option A1O)
noncomputable def A8V (x0:TP) (x3:Int):Option R7:=if x3>0 then(if 0≤wrap64 (x3-1)then(if wrap64 (x3-1)<(x0.length:Int)then((c152 (C5 ((false,(⟨#[]⟩:ByteArray)),(⟨#[]⟩:ByteArray)) x0 (wrap64 (x3-1)))).bind fun r1=>(B3 (r1) (gl0 x0 (wrap64 (x3-1))) (if(0:Int)≤0 then(if 0≤x3 then(if x3≤x3 then(if x3≤(x0.length:Int)then(some (slice_ x0 0 x3))else(none))else(none))else(none))else(none))))else(none))else(none))else(if(0:Int)≤0 then(if 0≤x3 then(if x3≤x3 then(if x3≤(x0.length:Int)then(some (slice_ x0 0 x3))else(none))else(none))else(none))else(none))
theorem E6B (s0:C6 D92.ask.bl) (s:C2w.T):D92.po E0 (C2x c152) (C5P gl0) s0 0 (C2w.mk' s)=A8V gl0 c152 s.1.1 s.1.2.1:=by kernel_rfl
noncomputable def B92 (x0:TP):Option R7:=gl0 x0 (x0.length:Int)
theorem e92 (s:D92.ask.T):D92.ev E0 (C2x c152) (C5P gl0) s=B92 gl0 s.1.1:=by kernel_rfl
end
noncomputable def B6h (x0:TQ):Option A3x:=some ((x0.1.1,x0.2),x0.1.2)
theorem F4P (s:B8s.ask.T):B8s.ev E0 [] [] s=B6h s.1.1:=by kernel_rfl
noncomputable def C1p (x0:TP):Option B5F:=some ([]:List TQ)
theorem D9n (s:B7M.ask.T):B7M.ev E0 [] [] s=C1p s.1.1:=by kernel_rfl
noncomputable def A6C (x0:TP):Option B5c:=if(([]:List TQ).length+x0.length)*40≤140737488355328 then(some (([]:List TQ)++x0))else(none)
theorem E3M (s:B8K.ask.T):B8K.ev E0 [] [] s=A6C s.1.1:=by kernel_rfl
noncomputable def C9X:Sk:=⟨[(0, .d (.li tQ)),(1, .d (.li tQ)),(6, .f (.a (.ref 6))),(7, .d (.it .i64)),(8, .f (.a (.ref 8))),(30, .d (.it .i64)),(31, .d (.it .i64))],[(6, .own tQ true),(8, .own tQ true)]⟩
noncomputable def C6c:Sk:=⟨[(1, .d (.li tQ)),(6, .f (.a (.ref 6))),(7, .d (.it .i64)),(8, .f (.a (.ref 8))),(10, .f (.a (.ptr 10 0 []))),(11, .d (.it .i64))],[(6, .own tQ true),(8, .own tQ true),(10, .cell tQ true)]⟩
noncomputable def C3D:Sk:=⟨[(1, .d (.li tQ)),(6, .f (.a (.ref 6))),(7, .d (.it .i64)),(8, .f (.a (.ref 8))),(10, .f (.a (.ptr 10 0 []))),(11, .d (.it .i64)),(12, .f (.a (.ptr 12 0 []))),(69, .d (.it .i64)),(70, .d (.it .i64))],[(6, .own tQ true),(8, .own tQ true),(10, .cell tQ true),(12, .cell tQ true)]⟩
noncomputable def B4l (gl0:TP→TP→Int→Int→Int→TP→TP→Option R9) (gl1:TP→Int→Int→TP→TP→TQ→Option R9) (gl2:TP→Int→Int→Int→Int→TP→TP→TQ→TQ→Option R9):List (D3 R9):=[⟨7,C9X,fun s=>gl0 s.1.1 s.1.2.1 s.1.2.2.1 s.1.2.2.2.1 s.1.2.2.2.2.1 s.2.1 s.2.2.1⟩,⟨13,C6c,fun s=>gl1 s.1.1 s.1.2.1 s.1.2.2.1 s.2.1 s.2.2.1 s.2.2.2.1⟩,⟨19,C3D,fun s=>gl2 s.1.1 s.1.2.1 s.1.2.2.1 s.1.2.2.2.1 s.1.2.2.2.2.1 s.2.1 s.2.2.1 s.2.2.2.1 s.2.2.2.2.1⟩]
noncomputable def B2X (c88:TQ→TQ→Option R88) (c89:Int→Option Y7) (c92:TP→Option R7) (c142:TQ→TQ→Option w8) (c147:TQ→Option A3x) (c152:TQ→Option A1O) (c189:TP→Option B2a):List FE:=[B9P c88,A5s c89,A5x c92,B0Y c142,B6A c147,B2g c152,D2A c189]
section
variable (gl0:TP→TP→Int→Int→Int→TP→TP→Option R9) (gl1:TP→Int→Int→TP→TP→TQ→Option R9) (gl2:TP→Int→Int→Int→Int→TP→TP→TQ→TQ→Option R9) (c88:TQ→TQ→Option R88) (c89:Int→Option Y7) (c92:TP→Option R7) (c142:TQ→TQ→Option w8) (c147:TQ→Option A3x) (c152:TQ→Option A1O) (c189:TP→Option B2a)
noncomputable def A8d (x0:TP) (x1:TP) (x7:Int) (x30:Int) (x31:Int) (x6:TP) (x8:TP):Option R9:=if x31<x30 then((c89 0).bind fun r1=>(if 0≤x31 then(if x31<(x8.length:Int)then(gl0 x0 x1 x7 x30 (wrap64 (x31+1)) x6 (x8.set (x31:Int).toNat (r1.1,r1.2)))else(none))else(none)))else(if 0≤wrap64 (x7-1)then(if wrap64 (x7-1)<(x1.length:Int)then((c147 (C5 ((false,(⟨#[]⟩:ByteArray)),(⟨#[]⟩:ByteArray)) x1 (wrap64 (x7-1)))).bind fun r2=>(gl1 x1 x7 (wrap64 ((x0.length:Int)-x7)) x6 x8 (r2.1,r2.2)))else(none))else(none))
theorem E4m (s0:C6 A3X.ask.bl) (s:C9X.T):A3X.po E0 (B2X c88 c89 c92 c142 c147 c152 c189) (B4l gl0 gl1 gl2) s0 0 (C9X.mk' s)=A8d gl0 gl1 c89 c147 s.1.1 s.1.2.1 s.1.2.2.1 s.1.2.2.2.1 s.1.2.2.2.2.1 s.2.1 s.2.2.1:=by kernel_rfl
noncomputable def A8n (x1:TP) (x7:Int) (x11:Int) (x6:TP) (x8:TP) (x10:TQ):Option R9:=if x11≥0 then(if 0≤wrap64 ((wrap64 (x11+x7))-1)then(if wrap64 ((wrap64 (x11+x7))-1)<(x6.length:Int)then((c142 (C5 ((false,(⟨#[]⟩:ByteArray)),(⟨#[]⟩:ByteArray)) x6 (wrap64 ((wrap64 (x11+x7))-1))) x10).bind fun r1=>(if 0≤x11 then(if x11<(x8.length:Int)then((c152 (r1.1,r1.2)).bind fun r2=>(B3 (r2) (gl1 x1 x7 (wrap64 (x11-1)) x6 (x8.set (x11:Int).toNat (r1.1,r1.2)) x10) (gl2 x1 x7 x11 (x1.length:Int) 0 x6 (x8.set (x11:Int).toNat (r1.1,r1.2)) x10 (r1.1,r1.2))))else(none))else(none)))else(none))else(none))else((c92 x8).bind fun r3=>(if(0:Int)≤0 then(if 0≤wrap64 (x7-1)then(if wrap64 (x7-1)≤(x6.length:Int)then(if(x6.length:Int)≤(x6.length:Int)then((c92 (slice_ x6 0 (wrap64 (x7-1)))).bind fun r4=>(some (r3,r4)))else(none))else(none))else(none))else(none)))
theorem E9X (s0:C6 A3X.ask.bl) (s:C6c.T):A3X.po E0 (B2X c88 c89 c92 c142 c147 c152 c189) (B4l gl0 gl1 gl2) s0 1 (C6c.mk' s)=A8n gl1 gl2 c92 c142 c152 s.1.1 s.1.2.1 s.1.2.2.1 s.2.1 s.2.2.1 s.2.2.2.1:=by kernel_rfl
noncomputable def A7y (x1:TP) (x7:Int) (x11:Int) (x69:Int) (x70:Int) (x6:TP) (x8:TP) (x10:TQ) (x12:TQ):Option R9:=if x70<x69 then(if 0≤wrap64 (x11+x70)then(if wrap64 (x11+x70)<(x6.length:Int)then(if 0≤x70 then(if x70<(x1.length:Int)then((c142 x12 (C5 ((false,(⟨#[]⟩:ByteArray)),(⟨#[]⟩:ByteArray)) x1 x70)).bind fun r1=>((c88 (C5 ((false,(⟨#[]⟩:ByteArray)),(⟨#[]⟩:ByteArray)) x6 (wrap64 (x11+x70))) (r1.1,r1.2)).bind fun r2=>(if 0≤wrap64 (x11+x70)then(if wrap64 (x11+x70)<(x6.length:Int)then(gl2 x1 x7 x11 x69 (wrap64 (x70+1)) (x6.set (wrap64 (x11+x70):Int).toNat (r2.1,r2.2)) x8 x10 x12)else(none))else(none))))else(none))else(none))else(none))else(none))else(gl1 x1 x7 (wrap64 (x11-1)) x6 x8 x10)
theorem E6o (s0:C6 A3X.ask.bl) (s:C3D.T):A3X.po E0 (B2X c88 c89 c92 c142 c147 c152 c189) (B4l gl0 gl1 gl2) s0 2 (C3D.mk' s)=A7y gl1 gl2 c88 c142 s.1.1 s.1.2.1 s.1.2.2.1 s.1.2.2.2.1 s.1.2.2.2.2.1 s.2.1 s.2.2.1 s.2.2.2.1 s.2.2.2.2.1:=by kernel_rfl
noncomputable def B4s (x0:TP) (x1:TP):Option R9:=(c189 x0).bind fun r1=>(if(x0.length:Int)<(x1.length:Int)then(some (([]:List TQ),r1))else(if 0≤wrap64 ((wrap64 ((x0.length:Int)-(x1.length:Int)))+1)then(if wrap64 ((wrap64 ((x0.length:Int)-(x1.length:Int)))+1)≤wrap64 ((wrap64 ((x0.length:Int)-(x1.length:Int)))+1)then(if(wrap64 ((wrap64 ((x0.length:Int)-(x1.length:Int)))+1):Int).toNat≤7036874417766 then(gl0 x0 x1 (x1.length:Int) ((List.replicate (wrap64 ((wrap64 ((x0.length:Int)-(x1.length:Int)))+1):Int).toNat ((false,(⟨#[]⟩:ByteArray)),(⟨#[]⟩:ByteArray))).length:Int) 0 r1 (List.replicate (wrap64 ((wrap64 ((x0.length:Int)-(x1.length:Int)))+1):Int).toNat ((false,(⟨#[]⟩:ByteArray)),(⟨#[]⟩:ByteArray))))else(none))else(none))else(none)))
theorem E7h (s:A3X.ask.T):A3X.ev E0 (B2X c88 c89 c92 c142 c147 c152 c189) (B4l gl0 gl1 gl2) s=B4s gl0 c189 s.1.1 s.1.2.1:=by kernel_rfl
end
noncomputable def C7d:Sk:=⟨[(0, .d (.li tQ)),(1, .d (.li tQ)),(4, .f (.a (.ptr 4 0 []))),(5, .f (.a (.ptr 5 0 [])))],[(4, .cell tQ true),(5, .cell tQ true)]⟩
noncomputable def C0Y (gl0:TP→TP→TQ→TQ→Option R84):List (D3 R84):=[⟨2,C7d,fun s=>gl0 s.1.1 s.1.2.1 s.2.1 s.2.2.1⟩]
noncomputable def C4o (c89:Int→Option Y7) (c142:TQ→TQ→Option w8) (c143:TQ→Int→Option A9U) (c144:TP→TP→Option R9) (c145:TQ→Option A5l):List FE:=[A5s c89,B0Y c142,D2L c143,B8W c144,C7C c145]
section
variable (gl0:TP→TP→TQ→TQ→Option R84) (c89:Int→Option Y7) (c142:TQ→TQ→Option w8) (c143:TQ→Int→Option A9U) (c144:TP→TP→Option R9) (c145:TQ→Option A5l)
noncomputable def C7W (x0:TP) (x1:TP) (x4:TQ) (x5:TQ):Option R84:=if wrap64 ((x1.length:Int)-1)<0 then(if wrap64 ((x0.length:Int)-1)>0 then((c89 0).bind fun r1=>(some (r1.1,r1.2)))else(if wrap64 ((x1.length:Int)-1)<0 then(some (x5.1,x5.2))else(if wrap64 ((x1.length:Int)-1)=0 then(if(0:Int)≤0 then(if 0<(x1.length:Int)then((c143 (C5 ((false,(⟨#[]⟩:ByteArray)),(⟨#[]⟩:ByteArray)) x1 0) (wrap64 ((x0.length:Int)-1))).bind fun r2=>((c142 x5 (r2.1,r2.2)).bind fun r3=>(some (r3.1,r3.2))))else(none))else(none))else((c144 x0 x1).bind fun r4=>(if(r4.2.length:Int)=0 then((c89 0).bind fun r5=>(some (r5.1,r5.2)))else(if(2:Int)=0 then(none)else(if Int.tmod (wrap64 ((wrap64 ((x0.length:Int)-1))*(wrap64 ((x1.length:Int)-1)))) 2=1 then((c145 x5).bind fun r6=>(if 0≤wrap64 ((x1.length:Int)-1)then(if wrap64 ((x1.length:Int)-1)<(x1.length:Int)then((c143 (C5 ((false,(⟨#[]⟩:ByteArray)),(⟨#[]⟩:ByteArray)) x1 (wrap64 ((x1.length:Int)-1))) (wrap64 ((wrap64 ((wrap64 ((x0.length:Int)-1))-(r4.2.length:Int)))+1))).bind fun r7=>((c142 (r6.1,r6.2) (r7.1,r7.2)).bind fun r8=>(gl0 x1 r4.2 x4 (r8.1,r8.2))))else(none))else(none)))else(if 0≤wrap64 ((x1.length:Int)-1)then(if wrap64 ((x1.length:Int)-1)<(x1.length:Int)then((c143 (C5 ((false,(⟨#[]⟩:ByteArray)),(⟨#[]⟩:ByteArray)) x1 (wrap64 ((x1.length:Int)-1))) (wrap64 ((wrap64 ((wrap64 ((x0.length:Int)-1))-(r4.2.length:Int)))+1))).bind fun r9=>((c142 x5 (r9.1,r9.2)).bind fun r10=>(gl0 x1 r4.2 x4 (r10.1,r10.2))))else(none))else(none)))))))))else(if wrap64 ((x1.length:Int)-1)<0 then(some (x5.1,x5.2))else(if wrap64 ((x1.length:Int)-1)=0 then(if(0:Int)≤0 then(if 0<(x1.length:Int)then((c143 (C5 ((false,(⟨#[]⟩:ByteArray)),(⟨#[]⟩:ByteArray)) x1 0) (wrap64 ((x0.length:Int)-1))).bind fun r11=>((c142 x5 (r11.1,r11.2)).bind fun r12=>(some (r12.1,r12.2))))else(none))else(none))else((c144 x0 x1).bind fun r13=>(if(r13.2.length:Int)=0 then((c89 0).bind fun r14=>(some (r14.1,r14.2)))else(if(2:Int)=0 then(none)else(if Int.tmod (wrap64 ((wrap64 ((x0.length:Int)-1))*(wrap64 ((x1.length:Int)-1)))) 2=1 then((c145 x5).bind fun r15=>(if 0≤wrap64 ((x1.length:Int)-1)then(if wrap64 ((x1.length:Int)-1)<(x1.length:Int)then((c143 (C5 ((false,(⟨#[]⟩:ByteArray)),(⟨#[]⟩:ByteArray)) x1 (wrap64 ((x1.length:Int)-1))) (wrap64 ((wrap64 ((wrap64 ((x0.length:Int)-1))-(r13.2.length:Int)))+1))).bind fun r16=>((c142 (r15.1,r15.2) (r16.1,r16.2)).bind fun r17=>(gl0 x1 r13.2 x4 (r17.1,r17.2))))else(none))else(none)))else(if 0≤wrap64 ((x1.length:Int)-1)then(if wrap64 ((x1.length:Int)-1)<(x1.length:Int)then((c143 (C5 ((false,(⟨#[]⟩:ByteArray)),(⟨#[]⟩:ByteArray)) x1 (wrap64 ((x1.length:Int)-1))) (wrap64 ((wrap64 ((wrap64 ((x0.length:Int)-1))-(r13.2.length:Int)))+1))).bind fun r18=>((c142 x5 (r18.1,r18.2)).bind fun r19=>(gl0 x1 r13.2 x4 (r19.1,r19.2))))else(none))else(none))))))))
theorem F3e (s0:C6 D84.ask.bl) (s:C7d.T):D84.po E0 (C4o c89 c142 c143 c144 c145) (C0Y gl0) s0 0 (C7d.mk' s)=C7W gl0 c89 c142 c143 c144 c145 s.1.1 s.1.2.1 s.2.1 s.2.2.1:=by kernel_rfl
noncomputable def B84 (x0:TP) (x1:TP):Option R84:=(c89 1).bind fun r1=>(gl0 x0 x1 ((false,(⟨#[]⟩:ByteArray)),(⟨#[]⟩:ByteArray)) (r1.1,r1.2))
theorem e84 (s:D84.ask.T):D84.ev E0 (C4o c89 c142 c143 c144 c145) (C0Y gl0) s=B84 gl0 c89 s.1.1 s.1.2.1:=by kernel_rfl
end
noncomputable def D8E (c89:Int→Option Y7):List FE:=[A5s c89]
section
variable (c89:Int→Option Y7)
noncomputable def B3X (x0:TP) (x1:Int):Option A5X:=if x1<0 then((c89 0).bind fun r1=>(some (r1.1,r1.2)))else(if x1≥(x0.length:Int)then((c89 0).bind fun r2=>(some (r2.1,r2.2)))else(if 0≤x1 then(if x1<(x0.length:Int)then(some ((C5 ((false,(⟨#[]⟩:ByteArray)),(⟨#[]⟩:ByteArray)) x0 x1).1,(C5 ((false,(⟨#[]⟩:ByteArray)),(⟨#[]⟩:ByteArray)) x0 x1).2))else(none))else(none)))
theorem F2d (s:B5k.ask.T):B5k.ev E0 (D8E c89) [] s=B3X c89 s.1.1 s.1.2.1:=by kernel_rfl
end
noncomputable def C0T:Sk:=⟨[(0, .d (.li tQ)),(1, .d (.li tQ)),(5, .f (.a (.ref 5))),(14, .d (.it .i64)),(15, .d (.it .i64))],[(5, .own tQ true)]⟩
noncomputable def C0R (gl0:TP→TP→Int→Int→TP→Option g7):List (D3 g7):=[⟨3,C0T,fun s=>gl0 s.1.1 s.1.2.1 s.1.2.2.1 s.1.2.2.2.1 s.2.1⟩]
noncomputable def C1h (c92:TP→Option R7) (c148:TQ→TQ→Option A3s) (c151:TP→Int→Option A5X):List FE:=[A5x c92,B5g c148,C2c c151]
section
variable (gl0:TP→TP→Int→Int→TP→Option g7) (c92:TP→Option R7) (c148:TQ→TQ→Option A3s) (c151:TP→Int→Option A5X)
noncomputable def A8i (x0:TP) (x1:TP) (x14:Int) (x15:Int) (x5:TP):Option g7:=if x15<x14 then((c151 x0 x15).bind fun r1=>((c151 x1 x15).bind fun r2=>((c148 (r1.1,r1.2) (r2.1,r2.2)).bind fun r3=>(if 0≤x15 then(if x15<(x5.length:Int)then(gl0 x0 x1 x14 (wrap64 (x15+1)) (x5.set (x15:Int).toNat (r3.1,r3.2)))else(none))else(none)))))else((c92 x5).bind fun r4=>(some r4))
theorem E8C (s0:C6 D90.ask.bl) (s:C0T.T):D90.po E0 (C1h c92 c148 c151) (C0R gl0) s0 0 (C0T.mk' s)=A8i gl0 c92 c148 c151 s.1.1 s.1.2.1 s.1.2.2.1 s.1.2.2.2.1 s.2.1:=by kernel_rfl
noncomputable def B90 (x0:TP) (x1:TP):Option g7:=if 0≤mx (x0.length:Int) (x1.length:Int)then(if mx (x0.length:Int) (x1.length:Int)≤mx (x0.length:Int) (x1.length:Int)then(if(mx (x0.length:Int) (x1.length:Int):Int).toNat≤7036874417766 then(gl0 x0 x1 ((List.replicate (mx (x0.length:Int) (x1.length:Int):Int).toNat ((false,(⟨#[]⟩:ByteArray)),(⟨#[]⟩:ByteArray))).length:Int) 0 (List.replicate (mx (x0.length:Int) (x1.length:Int):Int).toNat ((false,(⟨#[]⟩:ByteArray)),(⟨#[]⟩:ByteArray))))else(none))else(none))else(none)
theorem e90 (s:D90.ask.T):D90.ev E0 (C1h c92 c148 c151) (C0R gl0) s=B90 gl0 s.1.1 s.1.2.1:=by kernel_rfl
end
noncomputable def C9j:Sk:=⟨[(0, .d (.li tQ)),(1, .d (.li tQ)),(5, .f (.a (.ref 5))),(27, .d (.it .i64)),(28, .d (.it .i64))],[(5, .own tQ true)]⟩
noncomputable def C8J:Sk:=⟨[(1, .d (.li tQ)),(5, .f (.a (.ref 5))),(36, .d (.li tQ)),(37, .d (.it .i64)),(38, .d (.it .i64))],[(5, .own tQ true)]⟩
noncomputable def C5i:Sk:=⟨[(1, .d (.li tQ)),(5, .f (.a (.ref 5))),(7, .d (.it .i64)),(8, .f (.a (.ptr 8 0 []))),(36, .d (.li tQ)),(37, .d (.it .i64)),(38, .d (.it .i64)),(45, .d (.li tQ)),(46, .d (.it .i64)),(47, .d (.it .i64))],[(5, .own tQ true),(8, .cell tQ true)]⟩
noncomputable def B4H (gl0:TP→TP→Int→Int→TP→Option P1) (gl1:TP→TP→Int→Int→TP→Option P1) (gl2:TP→Int→TP→Int→Int→TP→Int→Int→TP→TQ→Option P1):List (D3 P1):=[⟨5,C9j,fun s=>gl0 s.1.1 s.1.2.1 s.1.2.2.1 s.1.2.2.2.1 s.2.1⟩,⟨10,C8J,fun s=>gl1 s.1.1 s.1.2.1 s.1.2.2.1 s.1.2.2.2.1 s.2.1⟩,⟨14,C5i,fun s=>gl2 s.1.1 s.1.2.1 s.1.2.2.1 s.1.2.2.2.1 s.1.2.2.2.2.1 s.1.2.2.2.2.2.1 s.1.2.2.2.2.2.2.1 s.1.2.2.2.2.2.2.2.1 s.2.1 s.2.2.1⟩]
noncomputable def B4k (c89:Int→Option Y7) (c92:TP→Option R7) (c142:TQ→TQ→Option w8) (c148:TQ→TQ→Option A3s) (c152:TQ→Option A1O):List FE:=[A5s c89,A5x c92,B0Y c142,B5g c148,B2g c152]
section
variable (gl0:TP→TP→Int→Int→TP→Option P1) (gl1:TP→TP→Int→Int→TP→Option P1) (gl2:TP→Int→TP→Int→Int→TP→Int→Int→TP→TQ→Option P1) (c89:Int→Option Y7) (c92:TP→Option R7) (c142:TQ→TQ→Option w8) (c148:TQ→TQ→Option A3s) (c152:TQ→Option A1O)
noncomputable def A7G (x0:TP) (x1:TP) (x27:Int) (x28:Int) (x5:TP):Option P1:=if x28<x27 then((c89 0).bind fun r1=>(if 0≤x28 then(if x28<(x5.length:Int)then(gl0 x0 x1 x27 (wrap64 (x28+1)) (x5.set (x28:Int).toNat (r1.1,r1.2)))else(none))else(none)))else(gl1 x1 x0 (x0.length:Int) 0 x5)
theorem E6C (s0:C6 D91.ask.bl) (s:C9j.T):D91.po E0 (B4k c89 c92 c142 c148 c152) (B4H gl0 gl1 gl2) s0 0 (C9j.mk' s)=A7G gl0 gl1 c89 s.1.1 s.1.2.1 s.1.2.2.1 s.1.2.2.2.1 s.2.1:=by kernel_rfl
noncomputable def A8a (x1:TP) (x36:TP) (x37:Int) (x38:Int) (x5:TP):Option P1:=if x38<x37 then(if 0≤x38 then(if x38<(x36.length:Int)then((c152 (C5 ((false,(⟨#[]⟩:ByteArray)),(⟨#[]⟩:ByteArray)) x36 x38)).bind fun r1=>(B3 (r1) (gl1 x1 x36 x37 (wrap64 (x38+1)) x5) (gl2 x1 x38 x36 x37 x38 x1 (x1.length:Int) 0 x5 (C5 ((false,(⟨#[]⟩:ByteArray)),(⟨#[]⟩:ByteArray)) x36 x38))))else(none))else(none))else((c92 x5).bind fun r2=>(some r2))
theorem E5y (s0:C6 D91.ask.bl) (s:C8J.T):D91.po E0 (B4k c89 c92 c142 c148 c152) (B4H gl0 gl1 gl2) s0 1 (C8J.mk' s)=A8a gl1 gl2 c92 c152 s.1.1 s.1.2.1 s.1.2.2.1 s.1.2.2.2.1 s.2.1:=by kernel_rfl
noncomputable def A8M (x1:TP) (x7:Int) (x36:TP) (x37:Int) (x38:Int) (x45:TP) (x46:Int) (x47:Int) (x5:TP) (x8:TQ):Option P1:=if x47<x46 then(if 0≤x47 then(if x47<(x45.length:Int)then(if 0≤wrap64 (x7+x47)then(if wrap64 (x7+x47)<(x5.length:Int)then((c142 x8 (C5 ((false,(⟨#[]⟩:ByteArray)),(⟨#[]⟩:ByteArray)) x45 x47)).bind fun r1=>((c148 (C5 ((false,(⟨#[]⟩:ByteArray)),(⟨#[]⟩:ByteArray)) x5 (wrap64 (x7+x47))) (r1.1,r1.2)).bind fun r2=>(if 0≤wrap64 (x7+x47)then(if wrap64 (x7+x47)<(x5.length:Int)then(gl2 x1 x7 x36 x37 x38 x45 x46 (wrap64 (x47+1)) (x5.set (wrap64 (x7+x47):Int).toNat (r2.1,r2.2)) x8)else(none))else(none))))else(none))else(none))else(none))else(none))else(gl1 x1 x36 x37 (wrap64 (x38+1)) x5)
theorem E3z (s0:C6 D91.ask.bl) (s:C5i.T):D91.po E0 (B4k c89 c92 c142 c148 c152) (B4H gl0 gl1 gl2) s0 2 (C5i.mk' s)=A8M gl1 gl2 c142 c148 s.1.1 s.1.2.1 s.1.2.2.1 s.1.2.2.2.1 s.1.2.2.2.2.1 s.1.2.2.2.2.2.1 s.1.2.2.2.2.2.2.1 s.1.2.2.2.2.2.2.2.1 s.2.1 s.2.2.1:=by kernel_rfl
noncomputable def B91 (x0:TP) (x1:TP):Option P1:=if(x0.length:Int)=0 then(some ([]:List TQ))else(if(x1.length:Int)=0 then(some ([]:List TQ))else(if 0≤wrap64 ((wrap64 ((x0.length:Int)+(x1.length:Int)))-1)then(if wrap64 ((wrap64 ((x0.length:Int)+(x1.length:Int)))-1)≤wrap64 ((wrap64 ((x0.length:Int)+(x1.length:Int)))-1)then(if(wrap64 ((wrap64 ((x0.length:Int)+(x1.length:Int)))-1):Int).toNat≤7036874417766 then(gl0 x0 x1 ((List.replicate (wrap64 ((wrap64 ((x0.length:Int)+(x1.length:Int)))-1):Int).toNat ((false,(⟨#[]⟩:ByteArray)),(⟨#[]⟩:ByteArray))).length:Int) 0 (List.replicate (wrap64 ((wrap64 ((x0.length:Int)+(x1.length:Int)))-1):Int).toNat ((false,(⟨#[]⟩:ByteArray)),(⟨#[]⟩:ByteArray))))else(none))else(none))else(none)))
theorem e91 (s:D91.ask.T):D91.ev E0 (B4k c89 c92 c142 c148 c152) (B4H gl0 gl1 gl2) s=B91 gl0 s.1.1 s.1.2.1:=by kernel_rfl
end
noncomputable def D8i (c144:TP→TP→Option R9):List FE:=[B8W c144]
section
variable (c144:TP→TP→Option R9)
noncomputable def B2t (x0:TP) (x1:TP):Option A3q:=(c144 x1 x0).bind fun r1=>(some r1.2)
theorem F1A (s:B6y.ask.T):B6y.ev E0 (D8i c144) [] s=B2t c144 s.1.1 s.1.2.1:=by kernel_rfl
end
noncomputable def D7c (c91:TP→TP→Option P1) (c165:TP→TP→Option A3q):List FE:=[B4J c91,B5r c165]
section
variable (c91:TP→TP→Option P1) (c165:TP→TP→Option A3q)
noncomputable def B3M (x0:TP) (x1:TP) (x2:TP):Option A3Q:=(c91 x1 x2).bind fun r1=>((c165 x0 r1).bind fun r2=>(some r2))
theorem E7O (s:B7t.ask.T):B7t.ev E0 (D7c c91 c165) [] s=B3M c91 c165 s.1.1 s.1.2.1 s.1.2.2.1:=by kernel_rfl
end
noncomputable def C2u:Sk:=⟨[(1, .d (.li (.li tQ))),(2, .d (.li tQ)),(3, .f (.a (.ptr 3 0 []))),(7, .d (.li tQ)),(8, .d (.it .i64))],[(3, .cell (.ag (.li tQ)) true)]⟩
noncomputable def C0x (gl0:TF→TP→TP→Int→TP→Option R85):List (D3 R85):=[⟨3,C2u,fun s=>gl0 s.1.1 s.1.2.1 s.1.2.2.1 s.1.2.2.2.1 s.2.1⟩]
noncomputable def C6R (c90:TP→TP→Option g7) (c146:TP→TP→TP→Option A3Q):List FE:=[B4I c90,B8b c146]
section
variable (gl0:TF→TP→TP→Int→TP→Option R85) (c90:TP→TP→Option g7) (c146:TP→TP→TP→Option A3Q)
noncomputable def A7B (x1:TF) (x2:TP) (x7:TP) (x8:Int) (x3:TP):Option R85:=if x8≥0 then((c146 x3 x7 x2).bind fun r1=>(if 0≤x8 then(if x8<(x1.length:Int)then((c90 r1 (C5 ([]:List TQ) x1 x8)).bind fun r2=>(gl0 x1 x2 r2 (wrap64 (x8-1)) x3))else(none))else(none)))else(some x7)
theorem F1L (s0:C6 D85.ask.bl) (s:C2u.T):D85.po E0 (C6R c90 c146) (C0x gl0) s0 0 (C2u.mk' s)=A7B gl0 c90 c146 s.1.1 s.1.2.1 s.1.2.2.1 s.1.2.2.2.1 s.2.1:=by kernel_rfl
noncomputable def B85 (x0:TP) (x1:TF) (x2:TP):Option R85:=gl0 x1 x2 ([]:List TQ) (wrap64 ((x1.length:Int)-1)) x0
theorem e85 (s:D85.ask.T):D85.ev E0 (C6R c90 c146) (C0x gl0) s=B85 gl0 s.1.1 s.1.2.1 s.1.2.2.1:=by kernel_rfl
end
noncomputable def C4P:Sk:=⟨[(3, .f (.a (.ref 3))),(9, .d (.li (.it .i64))),(10, .d (.it .i64)),(11, .d (.it .i64))],[(3, .own tQ true)]⟩
noncomputable def C5e (gl0:(List Int)→Int→Int→TP→Option d7):List (D3 d7):=[⟨3,C4P,fun s=>gl0 s.1.1 s.1.2.1 s.1.2.2.1 s.2.1⟩]
noncomputable def C7e (c89:Int→Option Y7) (c92:TP→Option R7):List FE:=[A5s c89,A5x c92]
section
variable (gl0:(List Int)→Int→Int→TP→Option d7) (c89:Int→Option Y7) (c92:TP→Option R7)
noncomputable def C9i (x9:(List Int)) (x10:Int) (x11:Int) (x3:TP):Option d7:=if x11<x10 then(if 0≤x11 then(if x11<(x9.length:Int)then((c89 (rd x9 x11)).bind fun r1=>(if 0≤x11 then(if x11<(x3.length:Int)then(gl0 x9 x10 (wrap64 (x11+1)) (x3.set (x11:Int).toNat (r1.1,r1.2)))else(none))else(none)))else(none))else(none))else((c92 x3).bind fun r2=>(some r2))
theorem E3F (s0:C6 D86.ask.bl) (s:C4P.T):D86.po E0 (C7e c89 c92) (C5e gl0) s0 0 (C4P.mk' s)=C9i gl0 c89 c92 s.1.1 s.1.2.1 s.1.2.2.1 s.2.1:=by kernel_rfl
noncomputable def B86 (x0:(List Int)):Option d7:=if 0≤(x0.length:Int)then(if(x0.length:Int)≤(x0.length:Int)then(if((x0.length:Int):Int).toNat≤7036874417766 then(gl0 x0 (x0.length:Int) 0 (List.replicate ((x0.length:Int):Int).toNat ((false,(⟨#[]⟩:ByteArray)),(⟨#[]⟩:ByteArray))))else(none))else(none))else(none)
theorem e86 (s:D86.ask.T):D86.ev E0 (C7e c89 c92) (C5e gl0) s=B86 gl0 s.1.1:=by kernel_rfl
end
noncomputable def D3u (c142:TQ→TQ→Option w8) (c147:TQ→Option A3x):List FE:=[B0Y c142,B6A c147]
section
variable (c142:TQ→TQ→Option w8) (c147:TQ→Option A3x)
noncomputable def B87 (x0:TQ) (x1:TQ):Option R87:=(c147 x1).bind fun r1=>((c142 x0 (r1.1,r1.2)).bind fun r2=>(some (r2.1,r2.2)))
theorem e87 (s:D87.ask.T):D87.ev E0 (D3u c142 c147) [] s=B87 c142 c147 s.1.1 s.1.2.1:=by kernel_rfl
end
noncomputable def B3B (x0:TQ):Option B0g:=if(x0.1.2.size:Int)>1024 then(some true)else(some (decide ((x0.2.size:Int)>1024)))
theorem F1W (s:B7h.ask.T):B7h.ev E0 [] [] s=B3B s.1.1:=by kernel_rfl
noncomputable def C4u:Sk:=⟨[(0, .d (.li tQ)),(1, .f (.cl 154 [])),(7, .d (.it .i64)),(8, .d (.it .i64))],[]⟩
noncomputable def C7D (gl0:TP→Int→Int→Option A2x):List (D3 A2x):=[⟨2,C4u,fun s=>gl0 s.1.1 s.1.2.1 s.1.2.2.1⟩]
noncomputable def C0X (c154:TQ→Option B0g):List FE:=[D4Q c154]
section
variable (gl0:TP→Int→Int→Option A2x) (c154:TQ→Option B0g)
noncomputable def A7h (x0:TP) (x7:Int) (x8:Int):Option A2x:=if x8<x7 then(if 0≤x8 then(if x8<(x0.length:Int)then((c154 (C5 ((false,(⟨#[]⟩:ByteArray)),(⟨#[]⟩:ByteArray)) x0 x8)).bind fun r1=>(B3 (r1) (some x8) (gl0 x0 x7 (wrap64 (x8+1)))))else(none))else(none))else(some (-1))
theorem F0j (s0:C6 A9M.ask.bl) (s:C4u.T):A9M.po E0 (C0X c154) (C7D gl0) s0 0 (C4u.mk' s)=A7h gl0 c154 s.1.1 s.1.2.1 s.1.2.2.1:=by kernel_rfl
noncomputable def B4v (x0:TP):Option A2x:=gl0 x0 (x0.length:Int) 0
theorem E4e (s:A9M.ask.T):A9M.ev E0 (C0X c154) (C7D gl0) s=B4v gl0 s.1.1:=by kernel_rfl
end
noncomputable def D2D (c194Large:TP→Option A2x):List FE:=[D7u c194Large]
section
variable (c194Large:TP→Option A2x)
noncomputable def C2B (x0:TP):Option A6H:=(c194Large x0).bind fun r1=>(some (decide (r1≥0)))
theorem F1E (s:B9k.ask.T):B9k.ev E0 (D2D c194Large) [] s=C2B c194Large s.1.1:=by kernel_rfl
end
noncomputable def D0a (c153Large:TP→Option A6H):List FE:=[C8o c153Large]
section
variable (c153Large:TP→Option A6H)
noncomputable def B93 (x0:TP):Option R93:=if(x0.length:Int)>65 then(some true)else((c153Large x0).bind fun r1=>(some r1))
theorem e93 (s:D93.ask.T):D93.ev E0 (D0a c153Large) [] s=B93 c153Large s.1.1:=by kernel_rfl
end
noncomputable def C8t:Sk:=⟨[(1, .d (.li (.li tQ))),(2, .f (.a (.ptr 2 0 []))),(7, .d (.it .i64)),(8, .f (.a (.ref 8))),(38, .d (.it .i64)),(39, .d (.it .i64))],[(2, .cell (.ag (.li tQ)) true),(8, .own tQ true)]⟩
noncomputable def C0j:Sk:=⟨[(7, .d (.it .i64)),(8, .f (.a (.ref 8))),(10, .d (.it .i64))],[(8, .own tQ true)]⟩
noncomputable def C1N:Sk:=⟨[(7, .d (.it .i64)),(8, .f (.a (.ref 8))),(10, .d (.it .i64)),(11, .d (.it .i64))],[(8, .own tQ true)]⟩
noncomputable def C7j:Sk:=⟨[(8, .f (.a (.ref 8))),(12, .d (.li tQ)),(13, .d (.it .i64))],[(8, .own tQ true)]⟩
noncomputable def B0O (gl0:TF→Int→Int→Int→TP→TP→Option R6) (gl1:Int→Int→TP→Option R6) (gl2:Int→Int→Int→TP→Option R6) (gl3:TP→Int→TP→Option R6):List (D3 R6):=[⟨11,C8t,fun s=>gl0 s.1.1 s.1.2.1 s.1.2.2.1 s.1.2.2.2.1 s.2.1 s.2.2.1⟩,⟨16,C0j,fun s=>gl1 s.1.1 s.1.2.1 s.2.1⟩,⟨19,C1N,fun s=>gl2 s.1.1 s.1.2.1 s.1.2.2.1 s.2.1⟩,⟨24,C7j,fun s=>gl3 s.1.1 s.1.2.1 s.2.1⟩]
noncomputable def B1y (c83:TP→(List TF)→Option U3) (c84:TP→TP→Option R84) (c85:TP→TF→TP→Option R85) (c86:(List Int)→Option d7) (c87:TQ→TQ→Option R87) (c88:TQ→TQ→Option R88) (c89:Int→Option Y7) (c90:TP→TP→Option g7) (c91:TP→TP→Option P1) (c92:TP→Option R7) (c93:TP→Option R93):List FE:=[A6z c83,D6w c84,C8s c85,B3y c86,D6t c87,B9P c88,A5s c89,B4I c90,B4J c91,A5x c92,D5r c93]
section
variable (gl0:TF→Int→Int→Int→TP→TP→Option R6) (gl1:Int→Int→TP→Option R6) (gl2:Int→Int→Int→TP→Option R6) (gl3:TP→Int→TP→Option R6) (c83:TP→(List TF)→Option U3) (c84:TP→TP→Option R84) (c85:TP→TF→TP→Option R85) (c86:(List Int)→Option d7) (c87:TQ→TQ→Option R87) (c88:TQ→TQ→Option R88) (c89:Int→Option Y7) (c90:TP→TP→Option g7) (c91:TP→TP→Option P1) (c92:TP→Option R7) (c93:TP→Option R93)
noncomputable def C3s (x1:TF) (x7:Int) (x38:Int) (x39:Int) (x2:TP) (x8:TP):Option R6:=if x39<x38 then((c86 ([x39]:List Int)).bind fun r1=>((c85 x2 x1 r1).bind fun r2=>((c84 x2 r2).bind fun r3=>(if 0≤x39 then(if x39<(x8.length:Int)then(gl0 x1 x7 x38 (wrap64 (x39+1)) x2 (x8.set (x39:Int).toNat (r3.1,r3.2)))else(none))else(none)))))else(gl1 x7 1 x8)
theorem F1e (s0:C6 D17.ask.bl) (s:C8t.T):D17.po E0 (B1y c83 c84 c85 c86 c87 c88 c89 c90 c91 c92 c93) (B0O gl0 gl1 gl2 gl3) s0 0 (C8t.mk' s)=C3s gl0 gl1 c84 c85 c86 s.1.1 s.1.2.1 s.1.2.2.1 s.1.2.2.2.1 s.2.1 s.2.2.1:=by kernel_rfl
noncomputable def C2O (x7:Int) (x10:Int) (x8:TP):Option R6:=if x10≤x7 then(gl2 x7 x10 x7 x8)else(gl3 ([]:List TQ) x7 x8)
theorem F4A (s0:C6 D17.ask.bl) (s:C0j.T):D17.po E0 (B1y c83 c84 c85 c86 c87 c88 c89 c90 c91 c92 c93) (B0O gl0 gl1 gl2 gl3) s0 1 (C0j.mk' s)=C2O gl2 gl3 s.1.1 s.1.2.1 s.2.1:=by kernel_rfl
noncomputable def C5K (x7:Int) (x10:Int) (x11:Int) (x8:TP):Option R6:=if x11≥x10 then(if 0≤x11 then(if x11<(x8.length:Int)then(if 0≤wrap64 (x11-1)then(if wrap64 (x11-1)<(x8.length:Int)then((c88 (C5 ((false,(⟨#[]⟩:ByteArray)),(⟨#[]⟩:ByteArray)) x8 x11) (C5 ((false,(⟨#[]⟩:ByteArray)),(⟨#[]⟩:ByteArray)) x8 (wrap64 (x11-1)))).bind fun r1=>((c89 x10).bind fun r2=>((c87 (r1.1,r1.2) (r2.1,r2.2)).bind fun r3=>(if 0≤x11 then(if x11<(x8.length:Int)then(gl2 x7 x10 (wrap64 (x11-1)) (x8.set (x11:Int).toNat (r3.1,r3.2)))else(none))else(none)))))else(none))else(none))else(none))else(none))else(gl1 x7 (wrap64 (x10+1)) x8)
theorem F5e (s0:C6 D17.ask.bl) (s:C1N.T):D17.po E0 (B1y c83 c84 c85 c86 c87 c88 c89 c90 c91 c92 c93) (B0O gl0 gl1 gl2 gl3) s0 2 (C1N.mk' s)=C5K gl1 gl2 c87 c88 c89 s.1.1 s.1.2.1 s.1.2.2.1 s.2.1:=by kernel_rfl
noncomputable def C7w (x12:TP) (x13:Int) (x8:TP):Option R6:=if x13≥0 then((c86 ([wrap64 (0-x13),1]:List Int)).bind fun r1=>((c91 x12 r1).bind fun r2=>(if 0≤x13 then(if x13<(x8.length:Int)then((c92 ([C5 ((false,(⟨#[]⟩:ByteArray)),(⟨#[]⟩:ByteArray)) x8 x13]:List TQ)).bind fun r3=>((c90 r2 r3).bind fun r4=>(gl3 r4 (wrap64 (x13-1)) x8)))else(none))else(none))))else((c93 x12).bind fun r5=>(B3 (r5) (some (([]:List TQ),4)) (some (x12,0))))
theorem F5d (s0:C6 D17.ask.bl) (s:C7j.T):D17.po E0 (B1y c83 c84 c85 c86 c87 c88 c89 c90 c91 c92 c93) (B0O gl0 gl1 gl2 gl3) s0 3 (C7j.mk' s)=C7w gl3 c86 c90 c91 c92 c93 s.1.1 s.1.2.1 s.2.1:=by kernel_rfl
noncomputable def B17 (x0:TP) (x1:TF):Option R6:=(c83 x0 ([x1]:List TF)).bind fun r1=>(if r1≠0 then(some (([]:List TQ),r1))else(if(x1.length:Int)=0 then(some (([]:List TQ),0))else(if wrap64 ((wrap64 ((x0.length:Int)-1))*(wrap64 ((x1.length:Int)-1)))>64 then(some (([]:List TQ),4))else(if 0≤wrap64 ((wrap64 ((wrap64 ((x0.length:Int)-1))*(wrap64 ((x1.length:Int)-1))))+1)then(if wrap64 ((wrap64 ((wrap64 ((x0.length:Int)-1))*(wrap64 ((x1.length:Int)-1))))+1)≤wrap64 ((wrap64 ((wrap64 ((x0.length:Int)-1))*(wrap64 ((x1.length:Int)-1))))+1)then(if(wrap64 ((wrap64 ((wrap64 ((x0.length:Int)-1))*(wrap64 ((x1.length:Int)-1))))+1):Int).toNat≤7036874417766 then(gl0 x1 (wrap64 ((wrap64 ((x0.length:Int)-1))*(wrap64 ((x1.length:Int)-1)))) ((List.replicate (wrap64 ((wrap64 ((wrap64 ((x0.length:Int)-1))*(wrap64 ((x1.length:Int)-1))))+1):Int).toNat ((false,(⟨#[]⟩:ByteArray)),(⟨#[]⟩:ByteArray))).length:Int) 0 x0 (List.replicate (wrap64 ((wrap64 ((wrap64 ((x0.length:Int)-1))*(wrap64 ((x1.length:Int)-1))))+1):Int).toNat ((false,(⟨#[]⟩:ByteArray)),(⟨#[]⟩:ByteArray))))else(none))else(none))else(none)))))
theorem e17 (s:D17.ask.T):D17.ev E0 (B1y c83 c84 c85 c86 c87 c88 c89 c90 c91 c92 c93) (B0O gl0 gl1 gl2 gl3) s=B17 gl0 c83 s.1.1 s.1.2.1:=by kernel_rfl
end
noncomputable def C8L:Sk:=⟨[(0, .d (.li tQ)),(1, .d (.li tQ)),(12, .d (.it .i64)),(13, .d (.it .i64))],[]⟩
noncomputable def C2n (gl0:TP→TP→Int→Int→Option t6):List (D3 t6):=[⟨4,C8L,fun s=>gl0 s.1.1 s.1.2.1 s.1.2.2.1 s.1.2.2.2.1⟩]
section
variable (gl0:TP→TP→Int→Int→Option t6)
noncomputable def A8W (x0:TP) (x1:TP) (x12:Int) (x13:Int):Option t6:=if x13<x12 then(if 0≤x13 then(if x13<(x0.length:Int)then(if 0≤x13 then(if x13<(x1.length:Int)then(B3 ((!((((((C5 ((false,(⟨#[]⟩:ByteArray)),(⟨#[]⟩:ByteArray)) x0 x13).1).1)==(((C5 ((false,(⟨#[]⟩:ByteArray)),(⟨#[]⟩:ByteArray)) x1 x13).1).1))&&(F0 (((C5 ((false,(⟨#[]⟩:ByteArray)),(⟨#[]⟩:ByteArray)) x0 x13).1).2) (((C5 ((false,(⟨#[]⟩:ByteArray)),(⟨#[]⟩:ByteArray)) x1 x13).1).2)))&&(F0 ((C5 ((false,(⟨#[]⟩:ByteArray)),(⟨#[]⟩:ByteArray)) x0 x13).2) ((C5 ((false,(⟨#[]⟩:ByteArray)),(⟨#[]⟩:ByteArray)) x1 x13).2))))) (some false) (gl0 x0 x1 x12 (wrap64 (x13+1))))else(none))else(none))else(none))else(none))else(some true)
theorem F1K (s0:C6 D18.ask.bl) (s:C8L.T):D18.po E0 [] (C2n gl0) s0 0 (C8L.mk' s)=A8W gl0 s.1.1 s.1.2.1 s.1.2.2.1 s.1.2.2.2.1:=by kernel_rfl
noncomputable def B18 (x0:TP) (x1:TP):Option t6:=if(x0.length:Int)≠(x1.length:Int)then(some false)else(gl0 x0 x1 (x0.length:Int) 0)
theorem e18 (s:D18.ask.T):D18.ev E0 [] (C2n gl0) s=B18 gl0 s.1.1 s.1.2.1:=by kernel_rfl
end
noncomputable def C4K (x0:TI):Option B0C:=B3 (x0.1) (some (-1)) (B3 ((F0 x0.2 (⟨#[]⟩:ByteArray))) (some 0) (some 1))
theorem E1F (s:B8z.ask.T):B8z.ev E0 [] [] s=C4K s.1.1:=by kernel_rfl
noncomputable def D2d (c173:TI→Option B0C):List FE:=[D3z c173]
section
variable (c173:TI→Option B0C)
noncomputable def B4t (x0:TQ):Option A6e:=(c173 x0.1).bind fun r1=>(some r1)
theorem F1z (s:B6i.ask.T):B6i.ev E0 (D2d c173) [] s=B4t c173 s.1.1:=by kernel_rfl
end
noncomputable def C6Q:Sk:=⟨[(0, .d (.li tQ)),(3, .d (.it .i64))],[]⟩
noncomputable def C3o (gl0:TP→Int→Option T8):List (D3 T8):=[⟨2,C6Q,fun s=>gl0 s.1.1 s.1.2.1⟩]
noncomputable def C6k (c123:TQ→Option A6e):List FE:=[C5H c123]
section
variable (gl0:TP→Int→Option T8) (c123:TQ→Option A6e)
noncomputable def A8r (x0:TP) (x3:Int):Option T8:=if x3>0 then(if 0≤wrap64 (x3-1)then(if wrap64 (x3-1)<(x0.length:Int)then((c123 (C5 ((false,(⟨#[]⟩:ByteArray)),(⟨#[]⟩:ByteArray)) x0 (wrap64 (x3-1)))).bind fun r1=>(if r1=0 then(gl0 x0 (wrap64 (x3-1)))else(if(0:Int)≤0 then(if 0≤x3 then(if x3≤(x0.length:Int)then(if(x0.length:Int)≤(x0.length:Int)then(if(([]:List TQ).length+(slice_ x0 0 x3).length)*40≤140737488355328 then(some (([]:List TQ)++(slice_ x0 0 x3)))else(none))else(none))else(none))else(none))else(none))))else(none))else(none))else(if(0:Int)≤0 then(if 0≤x3 then(if x3≤(x0.length:Int)then(if(x0.length:Int)≤(x0.length:Int)then(if(([]:List TQ).length+(slice_ x0 0 x3).length)*40≤140737488355328 then(some (([]:List TQ)++(slice_ x0 0 x3)))else(none))else(none))else(none))else(none))else(none))
theorem E5N (s0:C6 D48.ask.bl) (s:C6Q.T):D48.po E0 (C6k c123) (C3o gl0) s0 0 (C6Q.mk' s)=A8r gl0 c123 s.1.1 s.1.2.1:=by kernel_rfl
noncomputable def B48 (x0:TP):Option T8:=gl0 x0 (x0.length:Int)
theorem e48 (s:D48.ask.T):D48.ev E0 (C6k c123) (C3o gl0) s=B48 gl0 s.1.1:=by kernel_rfl
end
noncomputable def C8l:Sk:=⟨[(0, .d (.li (.it .u64))),(3, .f (.a (.ref 3))),(4, .d (.it .i64))],[(3, .own (.it .u8) true)]⟩
noncomputable def C2y:Sk:=⟨[(0, .d (.li (.it .u64))),(3, .f (.a (.ref 3))),(4, .d (.it .i64)),(5, .d (.it .i64))],[(3, .own (.it .u8) true)]⟩
noncomputable def B7T (gl0:(List Int)→Int→(List Int)→Option R2) (gl1:(List Int)→Int→Int→(List Int)→Option R2):List (D3 R2):=[⟨3,C8l,fun s=>gl0 s.1.1 s.1.2.1 s.2.1⟩,⟨6,C2y,fun s=>gl1 s.1.1 s.1.2.1 s.1.2.2.1 s.2.1⟩]
section
variable (gl0:(List Int)→Int→(List Int)→Option R2) (gl1:(List Int)→Int→Int→(List Int)→Option R2)
noncomputable def C3l (x0:(List Int)) (x4:Int) (x3:(List Int)):Option R2:=if x4≥0 then(gl1 x0 x4 24 x3)else(some (strOfNums x3))
theorem E2D (s0:C6 A6q.ask.bl) (s:C8l.T):A6q.po E0 [] (B7T gl0 gl1) s0 0 (C8l.mk' s)=C3l gl1 s.1.1 s.1.2.1 s.2.1:=by kernel_rfl
noncomputable def C0p (x0:(List Int)) (x4:Int) (x5:Int) (x3:(List Int)):Option R2:=if x5≥0 then(if 0≤x4 then(if x4<(x0.length:Int)then(if 0≤x5 then(if(x3.length:Int)>0 then(if(x3.length+1)*1≤140737488355328 then(gl1 x0 x4 (wrap64 (x5-8)) (x3++([IntKind.u8.wrap (shr .u64 (rd x0 x4) x5)]:List Int)))else(none))else(if IntKind.u8.wrap (shr .u64 (rd x0 x4) x5)>0 then(if(x3.length+1)*1≤140737488355328 then(gl1 x0 x4 (wrap64 (x5-8)) (x3++([IntKind.u8.wrap (shr .u64 (rd x0 x4) x5)]:List Int)))else(none))else(gl1 x0 x4 (wrap64 (x5-8)) x3)))else(none))else(none))else(none))else(gl0 x0 (wrap64 (x4-1)) x3)
theorem F3n (s0:C6 A6q.ask.bl) (s:C2y.T):A6q.po E0 [] (B7T gl0 gl1) s0 1 (C2y.mk' s)=C0p gl0 gl1 s.1.1 s.1.2.1 s.1.2.2.1 s.2.1:=by kernel_rfl
noncomputable def C1l (x0:(List Int)):Option R2:=gl0 x0 (wrap64 ((x0.length:Int)-1)) ([]:List Int)
theorem F2F (s:A6q.ask.T):A6q.ev E0 [] (B7T gl0 gl1) s=C1l gl0 s.1.1:=by kernel_rfl
end
noncomputable def D0I (c221:(List Int)→Option R2):List FE:=[B1u c221]
section
variable (c221:(List Int)→Option R2)
noncomputable def C2s (x0:Int):Option B1Y:=if(0:Int)≤32 then((c221 ([Go.bits .and .u64 x0 4294967295,x0/4294967296]:List Int)).bind fun r1=>(some r1))else(none)
theorem E8F (s:B5p.ask.T):B5p.ev E0 (D0I c221) [] s=C2s c221 s.1.1:=by kernel_rfl
end
noncomputable def D5O (c183:Int→Option B1Y):List FE:=[D2S c183]
section
variable (c183:Int→Option B1Y)
noncomputable def C9V (x0:Int):Option A9Q:=if x0<0 then((c183 (IntKind.u64.wrap ((IntKind.u64.wrap (wrap64 (0-(wrap64 (x0+1)))))+1))).bind fun r1=>(some (true,r1)))else((c183 (IntKind.u64.wrap (x0))).bind fun r2=>(some (false,r2)))
theorem F5k (s:B9W.ask.T):B9W.ev E0 (D5O c183) [] s=C9V c183 s.1.1:=by kernel_rfl
end
noncomputable def D3X (c141:Int→Option A9Q):List FE:=[D0O c141]
section
variable (c141:Int→Option A9Q)
noncomputable def B81 (x0:Int):Option Y1:=(c141 x0).bind fun r1=>(some ((r1.1,r1.2),(⟨#[1]⟩:ByteArray)))
theorem e81 (s:D81.ask.T):D81.ev E0 (D3X c141) [] s=B81 c141 s.1.1:=by kernel_rfl
end
noncomputable def C5t:Sk:=⟨[(3, .f (.a (.ref 3))),(6, .d (.li (.it .i64))),(7, .d (.it .i64)),(8, .d (.it .i64))],[(3, .own tQ true)]⟩
noncomputable def C3M (gl0:(List Int)→Int→Int→TP→Option R22):List (D3 R22):=[⟨3,C5t,fun s=>gl0 s.1.1 s.1.2.1 s.1.2.2.1 s.2.1⟩]
noncomputable def C8E (c48:TP→Option T8) (c81:Int→Option Y1):List FE:=[A8A c48,A5t c81]
section
variable (gl0:(List Int)→Int→Int→TP→Option R22) (c48:TP→Option T8) (c81:Int→Option Y1)
noncomputable def C8G (x6:(List Int)) (x7:Int) (x8:Int) (x3:TP):Option R22:=if x8<x7 then(if 0≤x8 then(if x8<(x6.length:Int)then((c81 (rd x6 x8)).bind fun r1=>(if(x3.length+1)*40≤140737488355328 then(gl0 x6 x7 (wrap64 (x8+1)) (x3++([(r1.1,r1.2)]:List TQ)))else(none)))else(none))else(none))else((c48 x3).bind fun r2=>(some r2))
theorem E4G (s0:C6 D22.ask.bl) (s:C5t.T):D22.po E0 (C8E c48 c81) (C3M gl0) s0 0 (C5t.mk' s)=C8G gl0 c48 c81 s.1.1 s.1.2.1 s.1.2.2.1 s.2.1:=by kernel_rfl
noncomputable def B22 (x0:(List Int)):Option R22:=gl0 x0 (x0.length:Int) 0 ([]:List TQ)
theorem e22 (s:D22.ask.T):D22.ev E0 (C8E c48 c81) (C3M gl0) s=B22 gl0 s.1.1:=by kernel_rfl
end
noncomputable def C6D:Sk:=⟨[(3, .f (.a (.ptr 3 0 []))),(5, .f (.a (.ref 5))),(11, .d (.li tQ)),(12, .d (.it .i64)),(13, .d (.it .i64))],[(3, .cell tQ true),(5, .own tQ true)]⟩
noncomputable def C6Z (gl0:TP→Int→Int→TQ→TP→Option A1n):List (D3 A1n):=[⟨3,C6D,fun s=>gl0 s.1.1 s.1.2.1 s.1.2.2.1 s.2.1 s.2.2.1⟩]
noncomputable def C9s (c92:TP→Option R7) (c142:TQ→TQ→Option w8):List FE:=[A5x c92,B0Y c142]
section
variable (gl0:TP→Int→Int→TQ→TP→Option A1n) (c92:TP→Option R7) (c142:TQ→TQ→Option w8)
noncomputable def C9N (x11:TP) (x12:Int) (x13:Int) (x3:TQ) (x5:TP):Option A1n:=if x13<x12 then(if 0≤x13 then(if x13<(x11.length:Int)then((c142 (C5 ((false,(⟨#[]⟩:ByteArray)),(⟨#[]⟩:ByteArray)) x11 x13) x3).bind fun r1=>(if 0≤x13 then(if x13<(x5.length:Int)then(gl0 x11 x12 (wrap64 (x13+1)) x3 (x5.set (x13:Int).toNat (r1.1,r1.2)))else(none))else(none)))else(none))else(none))else((c92 x5).bind fun r2=>(some r2))
theorem D9q (s0:C6 B0Z.ask.bl) (s:C6D.T):B0Z.po E0 (C9s c92 c142) (C6Z gl0) s0 0 (C6D.mk' s)=C9N gl0 c92 c142 s.1.1 s.1.2.1 s.1.2.2.1 s.2.1 s.2.2.1:=by kernel_rfl
noncomputable def C5a (x0:TP) (x1:TQ):Option A1n:=if 0≤(x0.length:Int)then(if(x0.length:Int)≤(x0.length:Int)then(if((x0.length:Int):Int).toNat≤7036874417766 then(gl0 x0 (x0.length:Int) 0 x1 (List.replicate ((x0.length:Int):Int).toNat ((false,(⟨#[]⟩:ByteArray)),(⟨#[]⟩:ByteArray))))else(none))else(none))else(none)
theorem E6x (s:B0Z.ask.T):B0Z.ev E0 (C9s c92 c142) (C6Z gl0) s=C5a gl0 s.1.1 s.1.2.1:=by kernel_rfl
end
noncomputable def C2Q:Sk:=⟨[(0, .d (.li tQ)),(1, .d (.li tQ)),(5, .f (.a (.ref 5))),(14, .d (.it .i64)),(15, .d (.it .i64))],[(5, .own tQ true)]⟩
noncomputable def C9q (gl0:TP→TP→Int→Int→TP→Option A0M):List (D3 A0M):=[⟨3,C2Q,fun s=>gl0 s.1.1 s.1.2.1 s.1.2.2.1 s.1.2.2.2.1 s.2.1⟩]
noncomputable def C1i (c88:TQ→TQ→Option R88) (c92:TP→Option R7) (c151:TP→Int→Option A5X):List FE:=[B9P c88,A5x c92,C2c c151]
section
variable (gl0:TP→TP→Int→Int→TP→Option A0M) (c88:TQ→TQ→Option R88) (c92:TP→Option R7) (c151:TP→Int→Option A5X)
noncomputable def C4z (x0:TP) (x1:TP) (x14:Int) (x15:Int) (x5:TP):Option A0M:=if x15<x14 then((c151 x0 x15).bind fun r1=>((c151 x1 x15).bind fun r2=>((c88 (r1.1,r1.2) (r2.1,r2.2)).bind fun r3=>(if 0≤x15 then(if x15<(x5.length:Int)then(gl0 x0 x1 x14 (wrap64 (x15+1)) (x5.set (x15:Int).toNat (r3.1,r3.2)))else(none))else(none)))))else((c92 x5).bind fun r4=>(some r4))
theorem F2h (s0:C6 B1L.ask.bl) (s:C2Q.T):B1L.po E0 (C1i c88 c92 c151) (C9q gl0) s0 0 (C2Q.mk' s)=C4z gl0 c88 c92 c151 s.1.1 s.1.2.1 s.1.2.2.1 s.1.2.2.2.1 s.2.1:=by kernel_rfl
noncomputable def C8v (x0:TP) (x1:TP):Option A0M:=if 0≤mx (x0.length:Int) (x1.length:Int)then(if mx (x0.length:Int) (x1.length:Int)≤mx (x0.length:Int) (x1.length:Int)then(if(mx (x0.length:Int) (x1.length:Int):Int).toNat≤7036874417766 then(gl0 x0 x1 ((List.replicate (mx (x0.length:Int) (x1.length:Int):Int).toNat ((false,(⟨#[]⟩:ByteArray)),(⟨#[]⟩:ByteArray))).length:Int) 0 (List.replicate (mx (x0.length:Int) (x1.length:Int):Int).toNat ((false,(⟨#[]⟩:ByteArray)),(⟨#[]⟩:ByteArray))))else(none))else(none))else(none)
theorem F2a (s:B1L.ask.T):B1L.ev E0 (C1i c88 c92 c151) (C9q gl0) s=C8v gl0 s.1.1 s.1.2.1:=by kernel_rfl
end
noncomputable def C3A:Sk:=⟨[(0, .d (.li tQ)),(6, .d (.li tQ)),(7, .d (.li tQ)),(8, .d (.li tQ)),(9, .d (.li tQ))],[]⟩
noncomputable def C5T (gl0:TP→TP→TP→TP→TP→Option A1K):List (D3 A1K):=[⟨4,C3A,fun s=>gl0 s.1.1 s.1.2.1 s.1.2.2.1 s.1.2.2.2.1 s.1.2.2.2.2.1⟩]
noncomputable def C1Q (c86:(List Int)→Option d7) (c91:TP→TP→Option P1) (c137:TP→TQ→Option A1n) (c144:TP→TP→Option R9) (c147:TQ→Option A3x) (c165:TP→TP→Option A3q) (c166:TP→TP→Option A0M):List FE:=[B3y c86,B4J c91,D8N c137,B8W c144,B6A c147,B5r c165,C0W c166]
section
variable (gl0:TP→TP→TP→TP→TP→Option A1K) (c86:(List Int)→Option d7) (c91:TP→TP→Option P1) (c137:TP→TQ→Option A1n) (c144:TP→TP→Option R9) (c147:TQ→Option A3x) (c165:TP→TP→Option A3q) (c166:TP→TP→Option A0M)
noncomputable def C1b (x0:TP) (x6:TP) (x7:TP) (x8:TP) (x9:TP):Option A1K:=if(x7.length:Int)>1 then((c144 x6 x7).bind fun r1=>((c91 r1.1 x9).bind fun r2=>((c166 x8 r2).bind fun r3=>(gl0 x0 x7 r1.2 x9 r3))))else(if(x7.length:Int)=0 then(some (([]:List TQ),false))else(if(0:Int)≤0 then(if 0<(x7.length:Int)then((c147 (C5 ((false,(⟨#[]⟩:ByteArray)),(⟨#[]⟩:ByteArray)) x7 0)).bind fun r4=>((c137 x9 (r4.1,r4.2)).bind fun r5=>((c165 x0 r5).bind fun r6=>(some (r6,true)))))else(none))else(none)))
theorem E3A (s0:C6 B1n.ask.bl) (s:C3A.T):B1n.po E0 (C1Q c86 c91 c137 c144 c147 c165 c166) (C5T gl0) s0 0 (C3A.mk' s)=C1b gl0 c91 c137 c144 c147 c165 c166 s.1.1 s.1.2.1 s.1.2.2.1 s.1.2.2.2.1 s.1.2.2.2.2.1:=by kernel_rfl
noncomputable def C9M (x0:TP) (x1:TP):Option A1K:=(c165 x0 x1).bind fun r1=>((c86 ([1]:List Int)).bind fun r2=>(gl0 x0 x0 r1 ([]:List TQ) r2))
theorem E7w (s:B1n.ask.T):B1n.ev E0 (C1Q c86 c91 c137 c144 c147 c165 c166) (C5T gl0) s=C9M gl0 c86 c165 s.1.1 s.1.2.1:=by kernel_rfl
end
noncomputable def C2H:Sk:=⟨[(0, .d (.li (.li tQ))),(3, .d (.it .i64))],[]⟩
noncomputable def C3O (gl0:TF→Int→Option W9):List (D3 W9):=[⟨2,C2H,fun s=>gl0 s.1.1 s.1.2.1⟩]
section
variable (gl0:TF→Int→Option W9)
noncomputable def A8P (x0:TF) (x3:Int):Option W9:=if x3>0 then(if 0≤wrap64 (x3-1)then(if wrap64 (x3-1)<(x0.length:Int)then(if((C5 ([]:List TQ) x0 (wrap64 (x3-1))).length:Int)=0 then(gl0 x0 (wrap64 (x3-1)))else(if(0:Int)≤0 then(if 0≤x3 then(if x3≤x3 then(if x3≤(x0.length:Int)then(some (slice_ x0 0 x3))else(none))else(none))else(none))else(none)))else(none))else(none))else(if(0:Int)≤0 then(if 0≤x3 then(if x3≤x3 then(if x3≤(x0.length:Int)then(some (slice_ x0 0 x3))else(none))else(none))else(none))else(none))
theorem E0O (s0:C6 A9o.ask.bl) (s:C2H.T):A9o.po E0 [] (C3O gl0) s0 0 (C2H.mk' s)=A8P gl0 s.1.1 s.1.2.1:=by kernel_rfl
noncomputable def B3O (x0:TF):Option W9:=gl0 x0 (x0.length:Int)
theorem F5B (s:A9o.ask.T):A9o.ev E0 [] (C3O gl0) s=B3O gl0 s.1.1:=by kernel_rfl
end
noncomputable def C5X:Sk:=⟨[(2, .d (.li (.li tQ))),(3, .d (.li tQ)),(4, .f (.a (.ptr 4 0 []))),(10, .f (.a (.ref 10))),(11, .d (.it .i64)),(12, .f (.a (.ref 12))),(13, .d (.it .i64))],[(4, .cell (.ag (.li tQ)) true),(10, .own (.li tQ) true),(12, .own (.li tQ) true)]⟩
noncomputable def C6q:Sk:=⟨[(2, .d (.li (.li tQ))),(3, .d (.li tQ)),(4, .f (.a (.ptr 4 0 []))),(10, .f (.a (.ref 10))),(11, .d (.it .i64)),(12, .f (.a (.ref 12))),(13, .d (.it .i64)),(14, .d (.li tQ)),(60, .d (.it .i64)),(61, .d (.it .i64))],[(4, .cell (.ag (.li tQ)) true),(10, .own (.li tQ) true),(12, .own (.li tQ) true)]⟩
noncomputable def B5G (gl0:TF→TP→Int→Int→TP→TF→TF→Option d6) (gl1:TF→TP→Int→Int→TP→Int→Int→TP→TF→TF→Option d6):List (D3 d6):=[⟨7,C5X,fun s=>gl0 s.1.1 s.1.2.1 s.1.2.2.1 s.1.2.2.2.1 s.2.1 s.2.2.1 s.2.2.2.1⟩,⟨13,C6q,fun s=>gl1 s.1.1 s.1.2.1 s.1.2.2.1 s.1.2.2.2.1 s.1.2.2.2.2.1 s.1.2.2.2.2.2.1 s.1.2.2.2.2.2.2.1 s.2.1 s.2.2.1 s.2.2.2.1⟩]
noncomputable def B7H (c122:TF→Option W9) (c146:TP→TP→TP→Option A3Q) (c166:TP→TP→Option A0M):List FE:=[B0l c122,B8b c146,C0W c166]
section
variable (gl0:TF→TP→Int→Int→TP→TF→TF→Option d6) (gl1:TF→TP→Int→Int→TP→Int→Int→TP→TF→TF→Option d6) (c122:TF→Option W9) (c146:TP→TP→TP→Option A3Q) (c166:TP→TP→Option A0M)
noncomputable def C2V (x2:TF) (x3:TP) (x11:Int) (x13:Int) (x4:TP) (x10:TF) (x12:TF):Option d6:=if x13≥0 then(if 0≤wrap64 ((wrap64 (x13+x11))-1)then(if wrap64 ((wrap64 (x13+x11))-1)<(x10.length:Int)then((c146 x4 (C5 ([]:List TQ) x10 (wrap64 ((wrap64 (x13+x11))-1))) x3).bind fun r1=>(if 0≤x13 then(if x13<(x12.length:Int)then(if(r1.length:Int)=0 then(gl0 x2 x3 x11 (wrap64 (x13-1)) x4 x10 (x12.set (x13:Int).toNat r1))else(gl1 x2 x3 x11 x13 r1 (wrap64 (x11-1)) 0 x4 x10 (x12.set (x13:Int).toNat r1)))else(none))else(none)))else(none))else(none))else((c122 x12).bind fun r2=>(if(0:Int)≤0 then(if 0≤wrap64 (x11-1)then(if wrap64 (x11-1)≤(x10.length:Int)then(if(x10.length:Int)≤(x10.length:Int)then((c122 (slice_ x10 0 (wrap64 (x11-1)))).bind fun r3=>(some (r2,r3)))else(none))else(none))else(none))else(none)))
theorem F4x (s0:C6 A5g.ask.bl) (s:C5X.T):A5g.po E0 (B7H c122 c146 c166) (B5G gl0 gl1) s0 0 (C5X.mk' s)=C2V gl0 gl1 c122 c146 s.1.1 s.1.2.1 s.1.2.2.1 s.1.2.2.2.1 s.2.1 s.2.2.1 s.2.2.2.1:=by kernel_rfl
noncomputable def C9g (x2:TF) (x3:TP) (x11:Int) (x13:Int) (x14:TP) (x60:Int) (x61:Int) (x4:TP) (x10:TF) (x12:TF):Option d6:=if x61<x60 then(if 0≤wrap64 (x13+x61)then(if wrap64 (x13+x61)<(x10.length:Int)then(if 0≤x61 then(if x61<(x2.length:Int)then((c146 x4 x14 (C5 ([]:List TQ) x2 x61)).bind fun r1=>((c166 (C5 ([]:List TQ) x10 (wrap64 (x13+x61))) r1).bind fun r2=>(if 0≤wrap64 (x13+x61)then(if wrap64 (x13+x61)<(x10.length:Int)then(gl1 x2 x3 x11 x13 x14 x60 (wrap64 (x61+1)) x4 (x10.set (wrap64 (x13+x61):Int).toNat r2) x12)else(none))else(none))))else(none))else(none))else(none))else(none))else(gl0 x2 x3 x11 (wrap64 (x13-1)) x4 x10 x12)
theorem E4D (s0:C6 A5g.ask.bl) (s:C6q.T):A5g.po E0 (B7H c122 c146 c166) (B5G gl0 gl1) s0 1 (C6q.mk' s)=C9g gl0 gl1 c146 c166 s.1.1 s.1.2.1 s.1.2.2.1 s.1.2.2.2.1 s.1.2.2.2.2.1 s.1.2.2.2.2.2.1 s.1.2.2.2.2.2.2.1 s.2.1 s.2.2.1 s.2.2.2.1:=by kernel_rfl
noncomputable def C5V (x0:TP) (x1:TF) (x2:TF) (x3:TP):Option d6:=if(([]:List TP).length+x1.length)*24≤140737488355328 then(if(x1.length:Int)<(x2.length:Int)then((c122 (([]:List TP)++x1)).bind fun r1=>(some (([]:List TP),r1)))else(if 0≤wrap64 ((wrap64 ((x1.length:Int)-(x2.length:Int)))+1)then(if wrap64 ((wrap64 ((x1.length:Int)-(x2.length:Int)))+1)≤wrap64 ((wrap64 ((x1.length:Int)-(x2.length:Int)))+1)then(if(wrap64 ((wrap64 ((x1.length:Int)-(x2.length:Int)))+1):Int).toNat≤11728124029610 then(gl0 x2 x3 (x2.length:Int) (wrap64 ((x1.length:Int)-(x2.length:Int))) x0 (([]:List TP)++x1) (List.replicate (wrap64 ((wrap64 ((x1.length:Int)-(x2.length:Int)))+1):Int).toNat ([]:List TQ)))else(none))else(none))else(none)))else(none)
theorem D9G (s:A5g.ask.T):A5g.ev E0 (B7H c122 c146 c166) (B5G gl0 gl1) s=C5V gl0 c122 s.1.1 s.1.2.1 s.1.2.2.1 s.1.2.2.2.1:=by kernel_rfl
end
noncomputable def D1r (c153Large:TP→Option A6H):List FE:=[C8o c153Large]
section
variable (c153Large:TP→Option A6H)
noncomputable def C7a (x0:TP):Option B1g:=(c153Large x0).bind fun r1=>(some r1)
theorem F4R (s:B9r.ask.T):B9r.ev E0 (D1r c153Large) [] s=C7a c153Large s.1.1:=by kernel_rfl
end
noncomputable def C8N:Sk:=⟨[(0, .d (.li (.li tQ))),(1, .f (.cl 176 [])),(7, .d (.it .i64)),(8, .d (.it .i64))],[]⟩
noncomputable def C4d (gl0:TF→Int→Int→Option A2q):List (D3 A2q):=[⟨2,C8N,fun s=>gl0 s.1.1 s.1.2.1 s.1.2.2.1⟩]
noncomputable def C5x (c176:TP→Option B1g):List FE:=[D6p c176]
section
variable (gl0:TF→Int→Int→Option A2q) (c176:TP→Option B1g)
noncomputable def A2j (x0:TF) (x7:Int) (x8:Int):Option A2q:=if x8<x7 then(if 0≤x8 then(if x8<(x0.length:Int)then((c176 (C5 ([]:List TQ) x0 x8)).bind fun r1=>(B3 (r1) (some x8) (gl0 x0 x7 (wrap64 (x8+1)))))else(none))else(none))else(some (-1))
theorem F6G (s0:C6 A9K.ask.bl) (s:C8N.T):A9K.po E0 (C5x c176) (C4d gl0) s0 0 (C8N.mk' s)=A2j gl0 c176 s.1.1 s.1.2.1 s.1.2.2.1:=by kernel_rfl
noncomputable def A9E (x0:TF):Option A2q:=gl0 x0 (x0.length:Int) 0
theorem F6a (s:A9K.ask.T):A9K.ev E0 (C5x c176) (C4d gl0) s=A9E gl0 s.1.1:=by kernel_rfl
end
noncomputable def D1x (c216Large:TF→Option A2q):List FE:=[D6T c216Large]
section
variable (c216Large:TF→Option A2q)
noncomputable def C4g (x0:TF):Option B2C:=(c216Large x0).bind fun r1=>(some (decide (r1≥0)))
theorem E2U (s:B9d.ask.T):B9d.ev E0 (D1x c216Large) [] s=C4g c216Large s.1.1:=by kernel_rfl
end
noncomputable def D5X (c175Large:TF→Option B2C):List FE:=[D7j c175Large]
section
variable (c175Large:TF→Option B2C)
noncomputable def C1y (x0:TF):Option A6O:=(c175Large x0).bind fun r1=>(some r1)
theorem F1a (s:B8k.ask.T):B8k.ev E0 (D5X c175Large) [] s=C1y c175Large s.1.1:=by kernel_rfl
end
noncomputable def D1S (c128:TF→Option A6O):List FE:=[C3J c128]
section
variable (c128:TF→Option A6O)
noncomputable def B4n (x0:TF):Option A1U:=if(x0.length:Int)>65 then(some true)else((c128 x0).bind fun r1=>(some r1))
theorem E8j (s:B7v.ask.T):B7v.ev E0 (D1S c128) [] s=B4n c128 s.1.1:=by kernel_rfl
end
noncomputable def D5T (c83:TP→(List TF)→Option U3) (c106:TP→TP→Option A1K) (c107:TP→TF→TF→TP→Option d6) (c108:TF→Option A1U):List FE:=[A6z c83,C7M c106,C3q c107,B3F c108]
section
variable (c83:TP→(List TF)→Option U3) (c106:TP→TP→Option A1K) (c107:TP→TF→TF→TP→Option d6) (c108:TF→Option A1U)
noncomputable def B28 (x0:TP) (x1:TF) (x2:TF):Option R28:=(c83 x0 ([x1,x2]:List TF)).bind fun r1=>(if r1≠0 then(some (([]:List TP),([]:List TP),r1))else(if(x2.length:Int)=0 then(some (([]:List TP),([]:List TP),6))else(if 0≤wrap64 ((x2.length:Int)-1)then(if wrap64 ((x2.length:Int)-1)<(x2.length:Int)then((c106 x0 (C5 ([]:List TQ) x2 (wrap64 ((x2.length:Int)-1)))).bind fun r2=>(B3 ((!r2.2)) (some (([]:List TP),([]:List TP),6)) ((c107 x0 x1 x2 r2.1).bind fun r3=>((c108 r3.1).bind fun r4=>(B3 (r4) (some (([]:List TP),([]:List TP),4)) ((c108 r3.2).bind fun r5=>(B3 (r5) (some (([]:List TP),([]:List TP),4)) (some (r3.1,r3.2,0)))))))))else(none))else(none))))
theorem e28 (s:D28.ask.T):D28.ev E0 (D5T c83 c106 c107 c108) [] s=B28 c83 c106 c107 c108 s.1.1 s.1.2.1 s.1.2.2.1:=by kernel_rfl
end
noncomputable def C5R:Sk:=⟨[(0, .d (.li (.li tQ))),(1, .d (.li (.li tQ))),(12, .d (.it .i64)),(13, .d (.it .i64))],[]⟩
noncomputable def C1P (gl0:TF→TF→Int→Int→Option R29):List (D3 R29):=[⟨4,C5R,fun s=>gl0 s.1.1 s.1.2.1 s.1.2.2.1 s.1.2.2.2.1⟩]
noncomputable def C2q (c18:TP→TP→Option t6):List FE:=[B8E c18]
section
variable (gl0:TF→TF→Int→Int→Option R29) (c18:TP→TP→Option t6)
noncomputable def A8F (x0:TF) (x1:TF) (x12:Int) (x13:Int):Option R29:=if x13<x12 then(if 0≤x13 then(if x13<(x0.length:Int)then(if 0≤x13 then(if x13<(x1.length:Int)then((c18 (C5 ([]:List TQ) x0 x13) (C5 ([]:List TQ) x1 x13)).bind fun r1=>(B3 ((!r1)) (some false) (gl0 x0 x1 x12 (wrap64 (x13+1)))))else(none))else(none))else(none))else(none))else(some true)
theorem E6k (s0:C6 D29.ask.bl) (s:C5R.T):D29.po E0 (C2q c18) (C1P gl0) s0 0 (C5R.mk' s)=A8F gl0 c18 s.1.1 s.1.2.1 s.1.2.2.1 s.1.2.2.2.1:=by kernel_rfl
noncomputable def B29 (x0:TF) (x1:TF):Option R29:=if(x0.length:Int)≠(x1.length:Int)then(some false)else(gl0 x0 x1 (x0.length:Int) 0)
theorem e29 (s:D29.ask.T):D29.ev E0 (C2q c18) (C1P gl0) s=B29 gl0 s.1.1 s.1.2.1:=by kernel_rfl
end
noncomputable def C5N:Sk:=⟨[(2, .d (.li tQ)),(3, .f (.a (.ptr 3 0 []))),(7, .f (.a (.ref 7))),(13, .d (.li (.li tQ))),(14, .d (.it .i64)),(15, .d (.it .i64))],[(3, .cell (.ag (.li tQ)) true),(7, .own (.li tQ) true)]⟩
noncomputable def C9R (gl0:TP→TF→Int→Int→TP→TF→Option A2s):List (D3 A2s):=[⟨3,C5N,fun s=>gl0 s.1.1 s.1.2.1 s.1.2.2.1 s.1.2.2.2.1 s.2.1 s.2.2.1⟩]
noncomputable def C0n (c122:TF→Option W9) (c146:TP→TP→TP→Option A3Q):List FE:=[B0l c122,B8b c146]
section
variable (gl0:TP→TF→Int→Int→TP→TF→Option A2s) (c122:TF→Option W9) (c146:TP→TP→TP→Option A3Q)
noncomputable def C6Y (x2:TP) (x13:TF) (x14:Int) (x15:Int) (x3:TP) (x7:TF):Option A2s:=if x15<x14 then(if 0≤x15 then(if x15<(x13.length:Int)then((c146 x3 (C5 ([]:List TQ) x13 x15) x2).bind fun r1=>(if 0≤x15 then(if x15<(x7.length:Int)then(gl0 x2 x13 x14 (wrap64 (x15+1)) x3 (x7.set (x15:Int).toNat r1))else(none))else(none)))else(none))else(none))else((c122 x7).bind fun r2=>(some r2))
theorem E4z (s0:C6 B1V.ask.bl) (s:C5N.T):B1V.po E0 (C0n c122 c146) (C9R gl0) s0 0 (C5N.mk' s)=C6Y gl0 c122 c146 s.1.1 s.1.2.1 s.1.2.2.1 s.1.2.2.2.1 s.2.1 s.2.2.1:=by kernel_rfl
noncomputable def C0o (x0:TP) (x1:TF) (x2:TP):Option A2s:=if 0≤(x1.length:Int)then(if(x1.length:Int)≤(x1.length:Int)then(if((x1.length:Int):Int).toNat≤11728124029610 then(gl0 x2 x1 (x1.length:Int) 0 x0 (List.replicate ((x1.length:Int):Int).toNat ([]:List TQ)))else(none))else(none))else(none)
theorem E3N (s:B1V.ask.T):B1V.ev E0 (C0n c122 c146) (C9R gl0) s=C0o gl0 s.1.1 s.1.2.1 s.1.2.2.1:=by kernel_rfl
end
noncomputable def D1j (c106:TP→TP→Option A1K) (c131:TP→TF→TP→Option A2s):List FE:=[C7M c106,D0w c131]
section
variable (c106:TP→TP→Option A1K) (c131:TP→TF→TP→Option A2s)
noncomputable def C3I (x0:TP) (x1:TF):Option A9l:=if(x1.length:Int)=0 then(some (([]:List TP),true))else(if 0≤wrap64 ((x1.length:Int)-1)then(if wrap64 ((x1.length:Int)-1)<(x1.length:Int)then((c106 x0 (C5 ([]:List TQ) x1 (wrap64 ((x1.length:Int)-1)))).bind fun r1=>(B3 ((!r1.2)) (some (([]:List TP),false)) ((c131 x0 x1 r1.1).bind fun r2=>(some (r2,true)))))else(none))else(none))
theorem F0b (s:C0F.ask.T):C0F.ev E0 (D1j c106 c131) [] s=C3I c106 c131 s.1.1 s.1.2.1:=by kernel_rfl
end
noncomputable def C0r (x0:TF):Option A9f:=some x0
theorem F0n (s:B7I.ask.T):B7I.ev E0 [] [] s=C0r s.1.1:=by kernel_rfl
noncomputable def D6r (c108:TF→Option A1U) (c112:TF→Option A9f):List FE:=[B3F c108,D6v c112]
section
variable (c108:TF→Option A1U) (c112:TF→Option A9f)
noncomputable def C6O (x0:(TF×Unit)):Option B0H:=(c112 x0.1).bind fun r1=>((c108 r1).bind fun r2=>(B3 (r2) (some (([]:List TP),4)) (some (r1,0))))
theorem E4U (s:B5y.ask.T):B5y.ev E0 (D6r c108 c112) [] s=C6O c108 c112 s.1.1:=by kernel_rfl
end
noncomputable def C9S:Sk:=⟨[(3, .f (.a (.ptr 3 0 []))),(9, .f (.a (.ptr 9 0 [])))],[(3, .cell (.ag (.li tQ)) true),(9, .cell (.ar (.pr (.li (.li tQ)) (.li (.li tQ)))) true)]⟩
noncomputable def C3Y (gl0:TP→(TF×TF)→Option R31):List (D3 R31):=[⟨5,C9S,fun s=>gl0 s.2.1 s.2.2.1⟩]
noncomputable def C0l (c83:TP→(List TF)→Option U3) (c86:(List Int)→Option d7) (c107:TP→TF→TF→TP→Option d6) (c110:TP→TF→Option A9l) (c111Gcd:(TF×Unit)→Option B0H):List FE:=[A6z c83,B3y c86,C3q c107,D2V c110,D7F c111Gcd]
section
variable (gl0:TP→(TF×TF)→Option R31) (c83:TP→(List TF)→Option U3) (c86:(List Int)→Option d7) (c107:TP→TF→TF→TP→Option d6) (c110:TP→TF→Option A9l) (c111Gcd:(TF×Unit)→Option B0H)
noncomputable def C1e (x3:TP) (x9:(TF×TF)):Option R31:=if(x9.2.length:Int)>0 then((c110 x3 x9.2).bind fun r1=>(B3 ((!r1.2)) (some (([]:List TP),6)) ((c86 ([1]:List Int)).bind fun r2=>((c107 x3 x9.1 r1.1 r2).bind fun r3=>(gl0 x3 (r1.1,r3.2))))))else((c110 x3 x9.1).bind fun r4=>(B3 ((!r4.2)) (some (([]:List TP),6)) ((c111Gcd (r4.1,())).bind fun r5=>(some (r5.1,r5.2)))))
theorem E8N (s0:C6 D31.ask.bl) (s:C9S.T):D31.po E0 (C0l c83 c86 c107 c110 c111Gcd) (C3Y gl0) s0 0 (C9S.mk' s)=C1e gl0 c86 c107 c110 c111Gcd s.2.1 s.2.2.1:=by kernel_rfl
noncomputable def B31 (x0:TP) (x1:TF) (x2:TF):Option R31:=(c83 x0 ([x1,x2]:List TF)).bind fun r1=>(if r1≠0 then(some (([]:List TP),r1))else(gl0 x0 (x1,x2)))
theorem e31 (s:D31.ask.T):D31.ev E0 (C0l c83 c86 c107 c110 c111Gcd) (C3Y gl0) s=B31 gl0 c83 s.1.1 s.1.2.1 s.1.2.2.1:=by kernel_rfl
end
noncomputable def B3N (x0:TF) (x1:Int):Option A9N:=if x1<(x0.length:Int)then(if 0≤x1 then(if x1<(x0.length:Int)then(some (C5 ([]:List TQ) x0 x1))else(none))else(none))else(some ([]:List TQ))
theorem E0g (s:B6b.ask.T):B6b.ev E0 [] [] s=B3N s.1.1 s.1.2.1:=by kernel_rfl
noncomputable def C4D:Sk:=⟨[(0, .d (.li (.li tQ))),(1, .d (.li (.li tQ))),(5, .f (.a (.ref 5))),(14, .d (.it .i64)),(15, .d (.it .i64))],[(5, .own (.li tQ) true)]⟩
noncomputable def C1A (gl0:TF→TF→Int→Int→TF→Option A2r):List (D3 A2r):=[⟨3,C4D,fun s=>gl0 s.1.1 s.1.2.1 s.1.2.2.1 s.1.2.2.2.1 s.2.1⟩]
noncomputable def C4n (c90:TP→TP→Option g7) (c122:TF→Option W9) (c174:TF→Int→Option A9N):List FE:=[B4I c90,B0l c122,D4J c174]
section
variable (gl0:TF→TF→Int→Int→TF→Option A2r) (c90:TP→TP→Option g7) (c122:TF→Option W9) (c174:TF→Int→Option A9N)
noncomputable def A7c (x0:TF) (x1:TF) (x14:Int) (x15:Int) (x5:TF):Option A2r:=if x15<x14 then((c174 x0 x15).bind fun r1=>((c174 x1 x15).bind fun r2=>((c90 r1 r2).bind fun r3=>(if 0≤x15 then(if x15<(x5.length:Int)then(gl0 x0 x1 x14 (wrap64 (x15+1)) (x5.set (x15:Int).toNat r3))else(none))else(none)))))else((c122 x5).bind fun r4=>(some r4))
theorem E8G (s0:C6 A9k.ask.bl) (s:C4D.T):A9k.po E0 (C4n c90 c122 c174) (C1A gl0) s0 0 (C4D.mk' s)=A7c gl0 c90 c122 c174 s.1.1 s.1.2.1 s.1.2.2.1 s.1.2.2.2.1 s.2.1:=by kernel_rfl
noncomputable def B4y (x0:TF) (x1:TF):Option A2r:=if 0≤mx (x0.length:Int) (x1.length:Int)then(if mx (x0.length:Int) (x1.length:Int)≤mx (x0.length:Int) (x1.length:Int)then(if(mx (x0.length:Int) (x1.length:Int):Int).toNat≤11728124029610 then(gl0 x0 x1 ((List.replicate (mx (x0.length:Int) (x1.length:Int):Int).toNat ([]:List TQ)).length:Int) 0 (List.replicate (mx (x0.length:Int) (x1.length:Int):Int).toNat ([]:List TQ)))else(none))else(none))else(none)
theorem E8n (s:A9k.ask.T):A9k.ev E0 (C4n c90 c122 c174) (C1A gl0) s=B4y gl0 s.1.1 s.1.2.1:=by kernel_rfl
end
noncomputable def C3b:Sk:=⟨[(2, .d (.li (.li tQ))),(3, .f (.a (.ptr 3 0 []))),(7, .f (.a (.ref 7))),(28, .d (.li (.li tQ))),(29, .d (.it .i64)),(30, .d (.it .i64))],[(3, .cell (.ag (.li tQ)) true),(7, .own (.li tQ) true)]⟩
noncomputable def C7y:Sk:=⟨[(2, .d (.li (.li tQ))),(3, .f (.a (.ptr 3 0 []))),(7, .f (.a (.ref 7))),(8, .d (.it .i64)),(9, .d (.li tQ)),(28, .d (.li (.li tQ))),(29, .d (.it .i64)),(30, .d (.it .i64)),(35, .d (.li (.li tQ))),(36, .d (.it .i64)),(37, .d (.it .i64))],[(3, .cell (.ag (.li tQ)) true),(7, .own (.li tQ) true)]⟩
noncomputable def C3F:Sk:=⟨[(3, .f (.a (.ptr 3 0 []))),(7, .f (.a (.ref 7))),(60, .d (.it .i64)),(61, .d (.it .i64))],[(3, .cell (.ag (.li tQ)) true),(7, .own (.li tQ) true)]⟩
noncomputable def B3P (gl0:TF→TF→Int→Int→TP→TF→Option T6) (gl1:TF→Int→TP→TF→Int→Int→TF→Int→Int→TP→TF→Option T6) (gl2:Int→Int→TP→TF→Option T6):List (D3 T6):=[⟨5,C3b,fun s=>gl0 s.1.1 s.1.2.1 s.1.2.2.1 s.1.2.2.2.1 s.2.1 s.2.2.1⟩,⟨8,C7y,fun s=>gl1 s.1.1 s.1.2.1 s.1.2.2.1 s.1.2.2.2.1 s.1.2.2.2.2.1 s.1.2.2.2.2.2.1 s.1.2.2.2.2.2.2.1 s.1.2.2.2.2.2.2.2.1 s.1.2.2.2.2.2.2.2.2.1 s.2.1 s.2.2.1⟩,⟨14,C3F,fun s=>gl2 s.1.1 s.1.2.1 s.2.1 s.2.2.1⟩]
noncomputable def B2r (c90:TP→TP→Option g7) (c91:TP→TP→Option P1) (c122:TF→Option W9) (c165:TP→TP→Option A3q):List FE:=[B4I c90,B4J c91,B0l c122,B5r c165]
section
variable (gl0:TF→TF→Int→Int→TP→TF→Option T6) (gl1:TF→Int→TP→TF→Int→Int→TF→Int→Int→TP→TF→Option T6) (gl2:Int→Int→TP→TF→Option T6) (c90:TP→TP→Option g7) (c91:TP→TP→Option P1) (c122:TF→Option W9) (c165:TP→TP→Option A3q)
noncomputable def A9F (x2:TF) (x28:TF) (x29:Int) (x30:Int) (x3:TP) (x7:TF):Option T6:=if x30<x29 then(if 0≤x30 then(if x30<(x28.length:Int)then(gl1 x2 x30 (C5 ([]:List TQ) x28 x30) x28 x29 x30 x2 (x2.length:Int) 0 x3 x7)else(none))else(none))else(gl2 (x7.length:Int) 0 x3 x7)
theorem E2r (s0:C6 A3Y.ask.bl) (s:C3b.T):A3Y.po E0 (B2r c90 c91 c122 c165) (B3P gl0 gl1 gl2) s0 0 (C3b.mk' s)=A9F gl1 gl2 s.1.1 s.1.2.1 s.1.2.2.1 s.1.2.2.2.1 s.2.1 s.2.2.1:=by kernel_rfl
noncomputable def A7p (x2:TF) (x8:Int) (x9:TP) (x28:TF) (x29:Int) (x30:Int) (x35:TF) (x36:Int) (x37:Int) (x3:TP) (x7:TF):Option T6:=if x37<x36 then(if 0≤x37 then(if x37<(x35.length:Int)then(if 0≤wrap64 (x8+x37)then(if wrap64 (x8+x37)<(x7.length:Int)then((c91 x9 (C5 ([]:List TQ) x35 x37)).bind fun r1=>((c90 (C5 ([]:List TQ) x7 (wrap64 (x8+x37))) r1).bind fun r2=>(if 0≤wrap64 (x8+x37)then(if wrap64 (x8+x37)<(x7.length:Int)then(gl1 x2 x8 x9 x28 x29 x30 x35 x36 (wrap64 (x37+1)) x3 (x7.set (wrap64 (x8+x37):Int).toNat r2))else(none))else(none))))else(none))else(none))else(none))else(none))else(gl0 x2 x28 x29 (wrap64 (x30+1)) x3 x7)
theorem E5X (s0:C6 A3Y.ask.bl) (s:C7y.T):A3Y.po E0 (B2r c90 c91 c122 c165) (B3P gl0 gl1 gl2) s0 1 (C7y.mk' s)=A7p gl0 gl1 c90 c91 s.1.1 s.1.2.1 s.1.2.2.1 s.1.2.2.2.1 s.1.2.2.2.2.1 s.1.2.2.2.2.2.1 s.1.2.2.2.2.2.2.1 s.1.2.2.2.2.2.2.2.1 s.1.2.2.2.2.2.2.2.2.1 s.2.1 s.2.2.1:=by kernel_rfl
noncomputable def A7P (x60:Int) (x61:Int) (x3:TP) (x7:TF):Option T6:=if x61<x60 then(if 0≤x61 then(if x61<(x7.length:Int)then((c165 x3 (C5 ([]:List TQ) x7 x61)).bind fun r1=>(if 0≤x61 then(if x61<(x7.length:Int)then(gl2 x60 (wrap64 (x61+1)) x3 (x7.set (x61:Int).toNat r1))else(none))else(none)))else(none))else(none))else((c122 x7).bind fun r2=>(some r2))
theorem F1w (s0:C6 A3Y.ask.bl) (s:C3F.T):A3Y.po E0 (B2r c90 c91 c122 c165) (B3P gl0 gl1 gl2) s0 2 (C3F.mk' s)=A7P gl2 c122 c165 s.1.1 s.1.2.1 s.2.1 s.2.2.1:=by kernel_rfl
noncomputable def B2Z (x0:TP) (x1:TF) (x2:TF):Option T6:=if(x1.length:Int)=0 then(some ([]:List TP))else(if(x2.length:Int)=0 then(some ([]:List TP))else(if 0≤wrap64 ((wrap64 ((x1.length:Int)+(x2.length:Int)))-1)then(if wrap64 ((wrap64 ((x1.length:Int)+(x2.length:Int)))-1)≤wrap64 ((wrap64 ((x1.length:Int)+(x2.length:Int)))-1)then(if(wrap64 ((wrap64 ((x1.length:Int)+(x2.length:Int)))-1):Int).toNat≤11728124029610 then(gl0 x2 x1 (x1.length:Int) 0 x0 (List.replicate (wrap64 ((wrap64 ((x1.length:Int)+(x2.length:Int)))-1):Int).toNat ([]:List TQ)))else(none))else(none))else(none)))
theorem F1q (s:A3Y.ask.T):A3Y.ev E0 (B2r c90 c91 c122 c165) (B3P gl0 gl1 gl2) s=B2Z gl0 s.1.1 s.1.2.1 s.1.2.2.1:=by kernel_rfl
end
noncomputable def C3K:Sk:=⟨[(1, .pv (.li (.li tQ))),(2, .pv (.ag (.li tQ))),(4, .d (.li (.li tQ))),(5, .d (.li (.li tQ))),(6, .d (.it .i64))],[]⟩
noncomputable def C1E (gl0:TF→TP→TF→TF→Int→Option A2R):List (D3 A2R):=[⟨4,C3K,fun s=>gl0 s.1.1 s.1.2.1 s.1.2.2.1 s.1.2.2.2.1 s.1.2.2.2.2.1⟩]
noncomputable def C1f (c86:(List Int)→Option d7) (c122:TF→Option W9) (c126:TF→TF→Option A2r) (c127:TP→TF→TF→Option T6):List FE:=[B3y c86,B0l c122,D3A c126,C3X c127]
section
variable (gl0:TF→TP→TF→TF→Int→Option A2R) (c86:(List Int)→Option d7) (c122:TF→Option W9) (c126:TF→TF→Option A2r) (c127:TP→TF→TF→Option T6)
noncomputable def A8H (x1:TF) (x2:TP) (x4:TF) (x5:TF) (x6:Int):Option A2R:=if x6≥0 then((c127 x2 x4 x5).bind fun r1=>(if 0≤x6 then(if x6<(x1.length:Int)then((c122 ([C5 ([]:List TQ) x1 x6]:List TP)).bind fun r2=>((c126 r1 r2).bind fun r3=>(gl0 x1 x2 r3 x5 (wrap64 (x6-1)))))else(none))else(none)))else(some x4)
theorem F0G (s0:C6 B2H.ask.bl) (s:C3K.T):B2H.po E0 (C1f c86 c122 c126 c127) (C1E gl0) s0 0 (C3K.mk' s)=A8H gl0 c122 c126 c127 s.1.1 s.1.2.1 s.1.2.2.1 s.1.2.2.2.1 s.1.2.2.2.2.1:=by kernel_rfl
noncomputable def B2W (x0:TP) (x1:TF) (x2:TP):Option A2R:=(c86 ([1]:List Int)).bind fun r1=>((c122 ([x0,r1]:List TP)).bind fun r2=>(gl0 x1 x2 ([]:List TP) r2 (wrap64 ((x1.length:Int)-1))))
theorem D9J (s:B2H.ask.T):B2H.ev E0 (C1f c86 c122 c126 c127) (C1E gl0) s=B2W gl0 c86 c122 s.1.1 s.1.2.1 s.1.2.2.1:=by kernel_rfl
end
noncomputable def D4P (c108:TF→Option A1U) (c125:TP→TF→TP→Option A2R):List FE:=[B3F c108,D2r c125]
section
variable (c108:TF→Option A1U) (c125:TP→TF→TP→Option A2R)
noncomputable def B4W (x0:(TP×TF×TP×Unit)):Option B2L:=(c125 x0.1 x0.2.1 x0.2.2.1).bind fun r1=>((c108 r1).bind fun r2=>(B3 (r2) (some (([]:List TP),4)) (some (r1,0))))
theorem E3T (s:B7P.ask.T):B7P.ev E0 (D4P c108 c125) [] s=B4W c108 c125 s.1.1:=by kernel_rfl
end
noncomputable def D6U (c83:TP→(List TF)→Option U3) (c111Shift:(TP×TF×TP×Unit)→Option B2L) (c124:TP→TP→Option A3f):List FE:=[A6z c83,D5e c111Shift,B8a c124]
section
variable (c83:TP→(List TF)→Option U3) (c111Shift:(TP×TF×TP×Unit)→Option B2L) (c124:TP→TP→Option A3f)
noncomputable def B50 (x0:TP) (x1:TF) (x2:TP):Option R50:=(c83 x0 ([x1]:List TF)).bind fun r1=>(if r1≠0 then(some (([]:List TP),r1))else((c124 x0 x2).bind fun r2=>(if r2≠0 then(some (([]:List TP),r2))else((c111Shift (x2,x1,x0,())).bind fun r3=>(some (r3.1,r3.2))))))
theorem e50 (s:D50.ask.T):D50.ev E0 (D6U c83 c111Shift c124) [] s=B50 c83 c111Shift c124 s.1.1 s.1.2.1 s.1.2.2.1:=by kernel_rfl
end
noncomputable def D8T (c17:TP→TF→Option R6) (c18:TP→TP→Option t6) (c22:(List Int)→Option R22) (c28:TP→TF→TF→Option R28) (c29:TF→TF→Option R29) (c31:TP→TF→TF→Option R31) (c50:TP→TF→TP→Option R50):List FE:=[D2z c17,B8E c18,D6R c22,D3k c28,C5s c29,D8q c31,C1X c50]
section
variable (c17:TP→TF→Option R6) (c18:TP→TP→Option t6) (c22:(List Int)→Option R22) (c28:TP→TF→TF→Option R28) (c29:TF→TF→Option R29) (c31:TP→TF→TF→Option R31) (c50:TP→TF→TP→Option R50)
noncomputable def B16:Option R16:=(c22 ([(-2),0,1]:List Int)).bind fun r1=>((c22 ([0,1]:List Int)).bind fun r2=>((c22 ([1]:List Int)).bind fun r3=>((c22 ([(-2)]:List Int)).bind fun r4=>((c22 ([0,(-1)]:List Int)).bind fun r5=>((c28 r1 ([r4,([]:List TQ),r3]:List TP) ([r5,r3]:List TP)).bind fun r6=>((c22 ([(-2)]:List Int)).bind fun r7=>((c22 ([2]:List Int)).bind fun r8=>((c22 ([0,(-2)]:List Int)).bind fun r9=>((c31 r1 ([r7,([]:List TQ),r3]:List TP) ([r8,r9,r3]:List TP)).bind fun r10=>((c22 ([0,(-1)]:List Int)).bind fun r11=>((c17 r1 ([r11,r3]:List TP)).bind fun r12=>((c17 r1 ([r2,([]:List TQ),r3]:List TP)).bind fun r13=>((c17 r1 ([r3,r2]:List TP)).bind fun r14=>((c50 r1 ([([]:List TQ),([]:List TQ),r3]:List TP) r2).bind fun r15=>(if wrap64 ((wrap64 ((wrap64 ((wrap64 ((wrap64 (r6.2.2+r10.2))+r12.2))+r13.2))+r14.2))+r15.2)≠0 then(some false)else(if(r6.2.1.length:Int)>0 then(some false)else((c29 r6.1 ([r2,r3]:List TP)).bind fun r16=>(B3 ((!r16)) (some false) ((c22 ([0,(-1)]:List Int)).bind fun r17=>((c29 r10.1 ([r17,r3]:List TP)).bind fun r18=>(B3 ((!r18)) (some false) ((c22 ([(-2),0,1]:List Int)).bind fun r19=>((c18 r12.1 r19).bind fun r20=>(B3 (r20) ((c22 ([(-2),0,0,0,1]:List Int)).bind fun r21=>((c18 r13.1 r21).bind fun r22=>(B3 (r22) ((c22 ([1,0,(-2)]:List Int)).bind fun r23=>((c18 r14.1 r23).bind fun r24=>(B3 (r24) ((c22 ([2]:List Int)).bind fun r25=>((c22 ([0,2]:List Int)).bind fun r26=>((c29 r15.1 ([r25,r26,r3]:List TP)).bind fun r27=>(some r27)))) (some false)))) (some false)))) (some false)))))))))))))))))))))))))
theorem e16 (s:D16.ask.T):D16.ev E0 (D8T c17 c18 c22 c28 c29 c31 c50) [] s=B16 c17 c18 c22 c28 c29 c31 c50:=by kernel_rfl
end
noncomputable def A4f (x0:TI):Option A5r:=some (x0,(⟨#[1]⟩:ByteArray))
theorem F5v (s:B5b.ask.T):B5b.ev E0 [] [] s=A4f s.1.1:=by kernel_rfl
noncomputable def C7i (x0:Bool) (x1:ByteArray):Option A3H:=B3 (x0) (some ((!(F0 x1 (⟨#[]⟩:ByteArray))),x1)) (some (false,x1))
theorem E3j (s:B5R.ask.T):B5R.ev E0 [] [] s=C7i s.1.1 s.1.2.1:=by kernel_rfl
noncomputable def C3r:Sk:=⟨[(0, .pre 2000)],[(2000, .own (.it .u64) false)]⟩
noncomputable def C8n (gl0:Int→(List Int)→Option A1G):List (D3 A1G):=[⟨1,C3r,fun s=>gl0 s.1.1 s.2.1⟩]
section
variable (gl0:Int→(List Int)→Option A1G)
noncomputable def C6C (x0:Int) (y0:(List Int)):Option A1G:=if x0-0>0 then(if 0≤wrap64 ((x0-0)-1)then(if wrap64 ((x0-0)-1)<x0-0 then(if rd y0 (0+(wrap64 ((x0-0)-1)))=0 then(if(0:Int)≤0 then(if 0≤wrap64 ((x0-0)-1)then(if wrap64 ((x0-0)-1)≤x0-0 then(if x0-0≤x0-0 then(gl0 (0+(wrap64 ((x0-0)-1))) y0)else(none))else(none))else(none))else(none))else(some (x0,y0)))else(none))else(none))else(some (x0,y0))
theorem E0U (s0:C6 B1l.ask.bl) (s:C3r.T):B1l.po E0 [] (C8n gl0) s0 0 (C3r.mk' s)=C6C gl0 s.1.1 s.2.1:=by kernel_rfl
noncomputable def C7q (y0:(List Int)):Option A1G:=gl0 (y0.length:Int) y0
theorem E6p (s:B1l.ask.T):B1l.ev E0 [] (C8n gl0) s=C7q gl0 s.2.1:=by kernel_rfl
end
noncomputable def C5Q:Sk:=⟨[(0, .d .st),(3, .f (.a (.ref 3))),(4, .d (.it .i64))],[(3, .own (.it .u64) true)]⟩
noncomputable def C2Z:Sk:=⟨[(0, .d .st),(3, .f (.a (.ref 3))),(4, .d (.it .i64)),(5, .d (.it .u64)),(6, .d (.it .i64))],[(3, .own (.it .u64) true)]⟩
noncomputable def B6g (gl0:ByteArray→Int→(List Int)→Option U7) (gl1:ByteArray→Int→Int→Int→(List Int)→Option U7):List (D3 U7):=[⟨3,C5Q,fun s=>gl0 s.1.1 s.1.2.1 s.2.1⟩,⟨7,C2Z,fun s=>gl1 s.1.1 s.1.2.1 s.1.2.2.1 s.1.2.2.2.1 s.2.1⟩]
noncomputable def B9b (c249:(List Int)→Option A1G):List FE:=[C5A c249]
section
variable (gl0:ByteArray→Int→(List Int)→Option U7) (gl1:ByteArray→Int→Int→Int→(List Int)→Option U7) (c249:(List Int)→Option A1G)
noncomputable def C9b (x0:ByteArray) (x4:Int) (x3:(List Int)):Option U7:=if x4>0 then(gl1 x0 x4 0 (mx 0 (wrap64 (x4-4))) x3)else((c249 x3).bind fun r1=>(some (r1.2.take (r1.1:Int).toNat)))
theorem F0z (s0:C6 A6L.ask.bl) (s:C5Q.T):A6L.po E0 (B9b c249) (B6g gl0 gl1) s0 0 (C5Q.mk' s)=C9b gl1 c249 s.1.1 s.1.2.1 s.2.1:=by kernel_rfl
noncomputable def C6z (x0:ByteArray) (x4:Int) (x5:Int) (x6:Int) (x3:(List Int)):Option U7:=if x6<x4 then(if 0≤x6 then(if x6<(x0.size:Int)then(gl1 x0 x4 (IntKind.u64.wrap ((IntKind.u64.wrap (x5*256))+(IntKind.u64.wrap (bt x0 x6)))) (wrap64 (x6+1)) x3)else(none))else(none))else(if(x3.length+1)*8≤140737488355328 then(gl0 x0 (wrap64 (x4-4)) (x3++([x5]:List Int)))else(none))
theorem E8o (s0:C6 A6L.ask.bl) (s:C2Z.T):A6L.po E0 (B9b c249) (B6g gl0 gl1) s0 1 (C2Z.mk' s)=C6z gl0 gl1 s.1.1 s.1.2.1 s.1.2.2.1 s.1.2.2.2.1 s.2.1:=by kernel_rfl
noncomputable def C7n (x0:ByteArray):Option U7:=gl0 x0 (x0.size:Int) ([]:List Int)
theorem E5G (s:A6L.ask.T):A6L.ev E0 (B9b c249) (B6g gl0 gl1) s=C7n gl0 s.1.1:=by kernel_rfl
end
noncomputable def C5Z:Sk:=⟨[(5, .f (.a (.ref 5))),(6, .f (.a (.ref 6))),(7, .f (.a (.ref 7))),(8, .d (.it .u64)),(9, .d (.it .i64))],[(5, .own (.it .u64) true),(6, .own (.it .u64) true),(7, .own (.it .u64) true)]⟩
noncomputable def C4j (gl0:Int→Int→(List Int)→(List Int)→(List Int)→Option A2w):List (D3 A2w):=[⟨5,C5Z,fun s=>gl0 s.1.1 s.1.2.1 s.2.1 s.2.2.1 s.2.2.2.1⟩]
noncomputable def C2I (c221:(List Int)→Option R2) (c229:ByteArray→Option U7):List FE:=[B1u c221,B3R c229]
section
variable (gl0:Int→Int→(List Int)→(List Int)→(List Int)→Option A2w) (c221:(List Int)→Option R2) (c229:ByteArray→Option U7)
noncomputable def C5k (x8:Int) (x9:Int) (x5:(List Int)) (x6:(List Int)) (x7:(List Int)):Option A2w:=if x9<(x5.length:Int)then(if x9<(x5.length:Int)then(if 0≤x9 then(if x9<(x5.length:Int)then(if x9<(x6.length:Int)then(if 0≤x9 then(if x9<(x6.length:Int)then(if(x7.length+1)*8≤140737488355328 then(if(0:Int)≤32 then(gl0 ((IntKind.u64.wrap ((IntKind.u64.wrap (x8+(rd x5 x9)))+(rd x6 x9)))/4294967296) (wrap64 (x9+1)) x5 x6 (x7++([Go.bits .and .u64 (IntKind.u64.wrap ((IntKind.u64.wrap (x8+(rd x5 x9)))+(rd x6 x9))) 4294967295]:List Int)))else(none))else(none))else(none))else(none))else(if(x7.length+1)*8≤140737488355328 then(if(0:Int)≤32 then(gl0 ((IntKind.u64.wrap (x8+(rd x5 x9)))/4294967296) (wrap64 (x9+1)) x5 x6 (x7++([Go.bits .and .u64 (IntKind.u64.wrap (x8+(rd x5 x9))) 4294967295]:List Int)))else(none))else(none)))else(none))else(none))else(if x9<(x6.length:Int)then(if 0≤x9 then(if x9<(x6.length:Int)then(if(x7.length+1)*8≤140737488355328 then(if(0:Int)≤32 then(gl0 ((IntKind.u64.wrap (x8+(rd x6 x9)))/4294967296) (wrap64 (x9+1)) x5 x6 (x7++([Go.bits .and .u64 (IntKind.u64.wrap (x8+(rd x6 x9))) 4294967295]:List Int)))else(none))else(none))else(none))else(none))else(if(x7.length+1)*8≤140737488355328 then(if(0:Int)≤32 then(gl0 (x8/4294967296) (wrap64 (x9+1)) x5 x6 (x7++([Go.bits .and .u64 x8 4294967295]:List Int)))else(none))else(none))))else(if x9<(x6.length:Int)then(if x9<(x5.length:Int)then(if 0≤x9 then(if x9<(x5.length:Int)then(if x9<(x6.length:Int)then(if 0≤x9 then(if x9<(x6.length:Int)then(if(x7.length+1)*8≤140737488355328 then(if(0:Int)≤32 then(gl0 ((IntKind.u64.wrap ((IntKind.u64.wrap (x8+(rd x5 x9)))+(rd x6 x9)))/4294967296) (wrap64 (x9+1)) x5 x6 (x7++([Go.bits .and .u64 (IntKind.u64.wrap ((IntKind.u64.wrap (x8+(rd x5 x9)))+(rd x6 x9))) 4294967295]:List Int)))else(none))else(none))else(none))else(none))else(if(x7.length+1)*8≤140737488355328 then(if(0:Int)≤32 then(gl0 ((IntKind.u64.wrap (x8+(rd x5 x9)))/4294967296) (wrap64 (x9+1)) x5 x6 (x7++([Go.bits .and .u64 (IntKind.u64.wrap (x8+(rd x5 x9))) 4294967295]:List Int)))else(none))else(none)))else(none))else(none))else(if x9<(x6.length:Int)then(if 0≤x9 then(if x9<(x6.length:Int)then(if(x7.length+1)*8≤140737488355328 then(if(0:Int)≤32 then(gl0 ((IntKind.u64.wrap (x8+(rd x6 x9)))/4294967296) (wrap64 (x9+1)) x5 x6 (x7++([Go.bits .and .u64 (IntKind.u64.wrap (x8+(rd x6 x9))) 4294967295]:List Int)))else(none))else(none))else(none))else(none))else(if(x7.length+1)*8≤140737488355328 then(if(0:Int)≤32 then(gl0 (x8/4294967296) (wrap64 (x9+1)) x5 x6 (x7++([Go.bits .and .u64 x8 4294967295]:List Int)))else(none))else(none))))else(if x8>0 then(if x9<(x5.length:Int)then(if 0≤x9 then(if x9<(x5.length:Int)then(if x9<(x6.length:Int)then(if 0≤x9 then(if x9<(x6.length:Int)then(if(x7.length+1)*8≤140737488355328 then(if(0:Int)≤32 then(gl0 ((IntKind.u64.wrap ((IntKind.u64.wrap (x8+(rd x5 x9)))+(rd x6 x9)))/4294967296) (wrap64 (x9+1)) x5 x6 (x7++([Go.bits .and .u64 (IntKind.u64.wrap ((IntKind.u64.wrap (x8+(rd x5 x9)))+(rd x6 x9))) 4294967295]:List Int)))else(none))else(none))else(none))else(none))else(if(x7.length+1)*8≤140737488355328 then(if(0:Int)≤32 then(gl0 ((IntKind.u64.wrap (x8+(rd x5 x9)))/4294967296) (wrap64 (x9+1)) x5 x6 (x7++([Go.bits .and .u64 (IntKind.u64.wrap (x8+(rd x5 x9))) 4294967295]:List Int)))else(none))else(none)))else(none))else(none))else(if x9<(x6.length:Int)then(if 0≤x9 then(if x9<(x6.length:Int)then(if(x7.length+1)*8≤140737488355328 then(if(0:Int)≤32 then(gl0 ((IntKind.u64.wrap (x8+(rd x6 x9)))/4294967296) (wrap64 (x9+1)) x5 x6 (x7++([Go.bits .and .u64 (IntKind.u64.wrap (x8+(rd x6 x9))) 4294967295]:List Int)))else(none))else(none))else(none))else(none))else(if(x7.length+1)*8≤140737488355328 then(if(0:Int)≤32 then(gl0 (x8/4294967296) (wrap64 (x9+1)) x5 x6 (x7++([Go.bits .and .u64 x8 4294967295]:List Int)))else(none))else(none))))else((c221 x7).bind fun r1=>(some r1))))
theorem D9z (s0:C6 B1t.ask.bl) (s:C5Z.T):B1t.po E0 (C2I c221 c229) (C4j gl0) s0 0 (C5Z.mk' s)=C5k gl0 c221 s.1.1 s.1.2.1 s.2.1 s.2.2.1 s.2.2.2.1:=by kernel_rfl
noncomputable def C3C (x0:ByteArray) (x1:ByteArray):Option A2w:=(c229 x0).bind fun r1=>((c229 x1).bind fun r2=>(gl0 0 0 r1 r2 ([]:List Int)))
theorem F3Y (s:B1t.ask.T):B1t.ev E0 (C2I c221 c229) (C4j gl0) s=C3C gl0 c229 s.1.1 s.1.2.1:=by kernel_rfl
end
noncomputable def C1V (x0:ByteArray) (x1:ByteArray):Option A6c:=if(x0.size:Int)<(x1.size:Int)then(some (-1))else(if(x0.size:Int)=(x1.size:Int)then(B3 ((Op.bytesLess x0.toList x1.toList)) (some (-1)) (B3 ((F0 x0 x1)) (some 0) (some 1)))else(B3 ((F0 x0 x1)) (some 0) (some 1)))
theorem F2t (s:B8D.ask.T):B8D.ev E0 [] [] s=C1V s.1.1 s.1.2.1:=by kernel_rfl
noncomputable def C5M:Sk:=⟨[(5, .f (.a (.ref 5))),(6, .f (.a (.ref 6))),(7, .d (.it .u64)),(8, .d (.it .i64))],[(5, .own (.it .u64) true),(6, .own (.it .u64) true)]⟩
noncomputable def C2o (gl0:Int→Int→(List Int)→(List Int)→Option A1y):List (D3 A1y):=[⟨6,C5M,fun s=>gl0 s.1.1 s.1.2.1 s.2.1 s.2.2.1⟩]
noncomputable def C6h (c200:ByteArray→ByteArray→Option A6c) (c221:(List Int)→Option R2) (c229:ByteArray→Option U7):List FE:=[C5r c200,B1u c221,B3R c229]
section
variable (gl0:Int→Int→(List Int)→(List Int)→Option A1y) (c200:ByteArray→ByteArray→Option A6c) (c221:(List Int)→Option R2) (c229:ByteArray→Option U7)
noncomputable def C0s (x7:Int) (x8:Int) (x5:(List Int)) (x6:(List Int)):Option A1y:=if x8<(x5.length:Int)then(if x8<(x6.length:Int)then(if 0≤x8 then(if x8<(x6.length:Int)then(if 0≤x8 then(if x8<(x5.length:Int)then(if rd x5 x8<IntKind.u64.wrap (x7+(rd x6 x8))then(if 0≤x8 then(if x8<(x5.length:Int)then(if 0≤x8 then(if x8<(x5.length:Int)then(if 0≤x8 then(if x8<((x5.set (x8:Int).toNat (IntKind.u64.wrap ((rd x5 x8)+4294967296))).length:Int)then(if 0≤x8 then(if x8<((x5.set (x8:Int).toNat (IntKind.u64.wrap ((rd x5 x8)+4294967296))).length:Int)then(gl0 1 (wrap64 (x8+1)) ((x5.set (x8:Int).toNat (IntKind.u64.wrap ((rd x5 x8)+4294967296))).set (x8:Int).toNat (IntKind.u64.wrap ((rd (x5.set (x8:Int).toNat (IntKind.u64.wrap ((rd x5 x8)+4294967296))) x8)-(IntKind.u64.wrap (x7+(rd x6 x8)))))) x6)else(none))else(none))else(none))else(none))else(none))else(none))else(none))else(none))else(if 0≤x8 then(if x8<(x5.length:Int)then(if 0≤x8 then(if x8<(x5.length:Int)then(gl0 0 (wrap64 (x8+1)) (x5.set (x8:Int).toNat (IntKind.u64.wrap ((rd x5 x8)-(IntKind.u64.wrap (x7+(rd x6 x8)))))) x6)else(none))else(none))else(none))else(none)))else(none))else(none))else(none))else(none))else(if 0≤x8 then(if x8<(x5.length:Int)then(if rd x5 x8<x7 then(if 0≤x8 then(if x8<(x5.length:Int)then(if 0≤x8 then(if x8<(x5.length:Int)then(if 0≤x8 then(if x8<((x5.set (x8:Int).toNat (IntKind.u64.wrap ((rd x5 x8)+4294967296))).length:Int)then(if 0≤x8 then(if x8<((x5.set (x8:Int).toNat (IntKind.u64.wrap ((rd x5 x8)+4294967296))).length:Int)then(gl0 1 (wrap64 (x8+1)) ((x5.set (x8:Int).toNat (IntKind.u64.wrap ((rd x5 x8)+4294967296))).set (x8:Int).toNat (IntKind.u64.wrap ((rd (x5.set (x8:Int).toNat (IntKind.u64.wrap ((rd x5 x8)+4294967296))) x8)-x7))) x6)else(none))else(none))else(none))else(none))else(none))else(none))else(none))else(none))else(if 0≤x8 then(if x8<(x5.length:Int)then(if 0≤x8 then(if x8<(x5.length:Int)then(gl0 0 (wrap64 (x8+1)) (x5.set (x8:Int).toNat (IntKind.u64.wrap ((rd x5 x8)-x7))) x6)else(none))else(none))else(none))else(none)))else(none))else(none)))else((c221 x5).bind fun r1=>(some r1))
theorem E5F (s0:C6 B0Q.ask.bl) (s:C5M.T):B0Q.po E0 (C6h c200 c221 c229) (C2o gl0) s0 0 (C5M.mk' s)=C0s gl0 c221 s.1.1 s.1.2.1 s.2.1 s.2.2.1:=by kernel_rfl
noncomputable def C1s (x0:ByteArray) (x1:ByteArray):Option A1y:=(c200 x0 x1).bind fun r1=>(if r1<0 then(some (⟨#[]⟩:ByteArray))else((c229 x0).bind fun r2=>((c229 x1).bind fun r3=>(gl0 0 0 r2 r3))))
theorem E6A (s:B0Q.ask.T):B0Q.ev E0 (C6h c200 c221 c229) (C2o gl0) s=C1s gl0 c200 c229 s.1.1 s.1.2.1:=by kernel_rfl
end
noncomputable def D4s (c198:Bool→ByteArray→Option A3H) (c199:ByteArray→ByteArray→Option A2w) (c200:ByteArray→ByteArray→Option A6c) (c201:ByteArray→ByteArray→Option A1y):List FE:=[B5L c198,D5p c199,C5r c200,D8D c201]
section
variable (c198:Bool→ByteArray→Option A3H) (c199:ByteArray→ByteArray→Option A2w) (c200:ByteArray→ByteArray→Option A6c) (c201:ByteArray→ByteArray→Option A1y)
noncomputable def C7T (x0:TI) (x1:TI):Option A9h:=B3 ((x0.1==x1.1)) ((c199 x0.2 x1.2).bind fun r1=>((c198 x0.1 r1).bind fun r2=>(some (r2.1,r2.2)))) ((c200 x0.2 x1.2).bind fun r3=>(if r3≥0 then((c201 x0.2 x1.2).bind fun r4=>((c198 x0.1 r4).bind fun r5=>(some (r5.1,r5.2))))else((c201 x1.2 x0.2).bind fun r6=>((c198 x1.1 r6).bind fun r7=>(some (r7.1,r7.2))))))
theorem E6P (s:B8U.ask.T):B8U.ev E0 (D4s c198 c199 c200 c201) [] s=C7T c198 c199 c200 c201 s.1.1 s.1.2.1:=by kernel_rfl
end
noncomputable def C3P:Sk:=⟨[(5, .f (.a (.ref 5))),(6, .f (.a (.ref 6))),(7, .f (.a (.ref 7))),(8, .d (.it .i64))],[(5, .own (.it .u64) true),(6, .own (.it .u64) true),(7, .own (.it .u64) true)]⟩
noncomputable def C9z:Sk:=⟨[(5, .f (.a (.ref 5))),(6, .f (.a (.ref 6))),(7, .f (.a (.ref 7))),(8, .d (.it .i64)),(9, .d (.it .u64)),(10, .d (.it .i64))],[(5, .own (.it .u64) true),(6, .own (.it .u64) true),(7, .own (.it .u64) true)]⟩
noncomputable def B7a (gl0:Int→(List Int)→(List Int)→(List Int)→Option q7) (gl1:Int→Int→Int→(List Int)→(List Int)→(List Int)→Option q7):List (D3 q7):=[⟨4,C3P,fun s=>gl0 s.1.1 s.2.1 s.2.2.1 s.2.2.2.1⟩,⟨8,C9z,fun s=>gl1 s.1.1 s.1.2.1 s.1.2.2.1 s.2.1 s.2.2.1 s.2.2.2.1⟩]
noncomputable def B9v (c221:(List Int)→Option R2) (c229:ByteArray→Option U7):List FE:=[B1u c221,B3R c229]
section
variable (gl0:Int→(List Int)→(List Int)→(List Int)→Option q7) (gl1:Int→Int→Int→(List Int)→(List Int)→(List Int)→Option q7) (c221:(List Int)→Option R2) (c229:ByteArray→Option U7)
noncomputable def C3g (x8:Int) (x5:(List Int)) (x6:(List Int)) (x7:(List Int)):Option q7:=if x8<(x5.length:Int)then(gl1 x8 0 0 x5 x6 x7)else((c221 x7).bind fun r1=>(some r1))
theorem F5K (s0:C6 A6n.ask.bl) (s:C3P.T):A6n.po E0 (B9v c221 c229) (B7a gl0 gl1) s0 0 (C3P.mk' s)=C3g gl1 c221 s.1.1 s.2.1 s.2.2.1 s.2.2.2.1:=by kernel_rfl
noncomputable def C1u (x8:Int) (x9:Int) (x10:Int) (x5:(List Int)) (x6:(List Int)) (x7:(List Int)):Option q7:=if x10<(x6.length:Int)then(if 0≤wrap64 (x8+x10)then(if wrap64 (x8+x10)<(x7.length:Int)then(if 0≤x8 then(if x8<(x5.length:Int)then(if 0≤x10 then(if x10<(x6.length:Int)then(if 0≤wrap64 (x8+x10)then(if wrap64 (x8+x10)<(x7.length:Int)then(if(0:Int)≤32 then(gl1 x8 ((IntKind.u64.wrap ((IntKind.u64.wrap ((rd x7 (wrap64 (x8+x10)))+(IntKind.u64.wrap ((rd x5 x8)*(rd x6 x10)))))+x9))/4294967296) (wrap64 (x10+1)) x5 x6 (x7.set (wrap64 (x8+x10):Int).toNat (Go.bits .and .u64 (IntKind.u64.wrap ((IntKind.u64.wrap ((rd x7 (wrap64 (x8+x10)))+(IntKind.u64.wrap ((rd x5 x8)*(rd x6 x10)))))+x9)) 4294967295)))else(none))else(none))else(none))else(none))else(none))else(none))else(none))else(none))else(none))else(if 0≤wrap64 (x8+(x6.length:Int))then(if wrap64 (x8+(x6.length:Int))<(x7.length:Int)then(gl0 (wrap64 (x8+1)) x5 x6 (x7.set (wrap64 (x8+(x6.length:Int)):Int).toNat x9))else(none))else(none))
theorem E6n (s0:C6 A6n.ask.bl) (s:C9z.T):A6n.po E0 (B9v c221 c229) (B7a gl0 gl1) s0 1 (C9z.mk' s)=C1u gl0 gl1 s.1.1 s.1.2.1 s.1.2.2.1 s.2.1 s.2.2.1 s.2.2.2.1:=by kernel_rfl
noncomputable def C5q (x0:ByteArray) (x1:ByteArray):Option q7:=(c229 x0).bind fun r1=>((c229 x1).bind fun r2=>(if 0≤wrap64 ((r1.length:Int)+(r2.length:Int))then(if wrap64 ((r1.length:Int)+(r2.length:Int))≤wrap64 ((r1.length:Int)+(r2.length:Int))then(if(wrap64 ((r1.length:Int)+(r2.length:Int)):Int).toNat≤35184372088832 then(gl0 0 r1 r2 (List.replicate (wrap64 ((r1.length:Int)+(r2.length:Int)):Int).toNat (0:Int)))else(none))else(none))else(none)))
theorem F3G (s:A6n.ask.T):A6n.ev E0 (B9v c221 c229) (B7a gl0 gl1) s=C5q gl0 c229 s.1.1 s.1.2.1:=by kernel_rfl
end
noncomputable def D2J (c198:Bool→ByteArray→Option A3H) (c202:ByteArray→ByteArray→Option q7):List FE:=[B5L c198,D5d c202]
section
variable (c198:Bool→ByteArray→Option A3H) (c202:ByteArray→ByteArray→Option q7)
noncomputable def C2Y (x0:TI) (x1:TI):Option A6Y:=(c202 x0.2 x1.2).bind fun r1=>((c198 (!(x0.1==x1.1)) r1).bind fun r2=>(some (r2.1,r2.2)))
theorem E0Y (s:B6Q.ask.T):B6Q.ev E0 (D2J c198 c202) [] s=C2Y c198 c202 s.1.1 s.1.2.1:=by kernel_rfl
end
noncomputable def A5N (x0:TQ):Option A5e:=some (false,x0.2)
theorem F0u (s:B6Z.ask.T):B6Z.ev E0 [] [] s=A5N s.1.1:=by kernel_rfl
noncomputable def C2g:Sk:=⟨[(0, .pre 2000),(1, .d (.li (.it .u64))),(5, .d (.it .i64))],[(2000, .own (.it .u64) false)]⟩
noncomputable def C3T (gl0:Int→(List Int)→Int→(List Int)→Option A2M):List (D3 A2M):=[⟨5,C2g,fun s=>gl0 s.1.1 s.1.2.1 s.1.2.2.1 s.2.1⟩]
noncomputable def C4s (c249:(List Int)→Option A1G):List FE:=[C5A c249]
section
variable (gl0:Int→(List Int)→Int→(List Int)→Option A2M) (c249:(List Int)→Option A1G)
noncomputable def C1G (x0:Int) (x1:(List Int)) (x5:Int) (y0:(List Int)):Option A2M:=if x5≥0 then(if 0≤x5 then(if x5<x0-0 then(if 0≤x5 then(if x5<(x1.length:Int)then(if rd y0 (0+x5)≠rd x1 x5 then(if 0≤x5 then(if x5<x0-0 then(if 0≤x5 then(if x5<(x1.length:Int)then(some (decide (rd y0 (0+x5)<rd x1 x5),y0))else(none))else(none))else(none))else(none))else(gl0 x0 x1 (wrap64 (x5-1)) y0))else(none))else(none))else(none))else(none))else(some (false,y0))
theorem E7d (s0:C6 A9n.ask.bl) (s:C2g.T):A9n.po E0 (C4s c249) (C3T gl0) s0 0 (C2g.mk' s)=C1G gl0 s.1.1 s.1.2.1 s.1.2.2.1 s.2.1:=by kernel_rfl
noncomputable def C2M (x1:(List Int)) (y0:(List Int)):Option A2M:=(c249 y0).bind fun r1=>(if r1.1-0≠(x1.length:Int)then(some (decide (r1.1-0<(x1.length:Int)),r1.2))else(gl0 r1.1 x1 (wrap64 ((r1.1-0)-1)) r1.2))
theorem E8w (s:A9n.ask.T):A9n.ev E0 (C4s c249) (C3T gl0) s=C2M gl0 c249 s.1.1 s.2.1:=by kernel_rfl
end
noncomputable def C0S:Sk:=⟨[(7, .d (.li (.it .u64))),(8, .d (.it .i64)),(9, .f (.a (.ref 9))),(10, .f (.a (.ref 10))),(11, .d (.it .i64))],[(9, .own (.it .u64) true),(10, .own (.it .u64) true)]⟩
noncomputable def C3p:Sk:=⟨[(7, .d (.li (.it .u64))),(8, .d (.it .i64)),(9, .f (.a (.ref 9))),(10, .f (.a (.ref 10))),(11, .d (.it .i64))],[(9, .own (.it .u64) true),(10, .own (.it .u64) true)]⟩
noncomputable def C7p:Sk:=⟨[(7, .d (.li (.it .u64))),(8, .d (.it .i64)),(9, .f (.a (.ref 9))),(10, .f (.a (.ref 10))),(11, .d (.it .i64)),(12, .d (.it .u64)),(13, .d (.it .u64)),(14, .d (.it .i64))],[(9, .own (.it .u64) true),(10, .own (.it .u64) true)]⟩
noncomputable def B4h (gl0:(List Int)→Int→Int→(List Int)→(List Int)→Option U5) (gl1:(List Int)→Int→Int→(List Int)→(List Int)→Option U5) (gl2:(List Int)→Int→Int→Int→Int→Int→(List Int)→(List Int)→Option U5):List (D3 U5):=[⟨8,C0S,fun s=>gl0 s.1.1 s.1.2.1 s.1.2.2.1 s.2.1 s.2.2.1⟩,⟨10,C3p,fun s=>gl1 s.1.1 s.1.2.1 s.1.2.2.1 s.2.1 s.2.2.1⟩,⟨15,C7p,fun s=>gl2 s.1.1 s.1.2.1 s.1.2.2.1 s.1.2.2.2.1 s.1.2.2.2.2.1 s.1.2.2.2.2.2.1 s.2.1 s.2.2.1⟩]
noncomputable def B3h (c221:(List Int)→Option R2) (c229:ByteArray→Option U7) (c230:(List Int)→(List Int)→Option A2M):List FE:=[B1u c221,B3R c229,D1K c230]
section
variable (gl0:(List Int)→Int→Int→(List Int)→(List Int)→Option U5) (gl1:(List Int)→Int→Int→(List Int)→(List Int)→Option U5) (gl2:(List Int)→Int→Int→Int→Int→Int→(List Int)→(List Int)→Option U5) (c221:(List Int)→Option R2) (c229:ByteArray→Option U7) (c230:(List Int)→(List Int)→Option A2M)
noncomputable def C3N (x7:(List Int)) (x8:Int) (x11:Int) (x9:(List Int)) (x10:(List Int)):Option U5:=if x11≥0 then(gl1 x7 x8 x11 x9 x10)else((c221 x10).bind fun r1=>((c221 x9).bind fun r2=>(some (r1,r2))))
theorem E9x (s0:C6 A3i.ask.bl) (s:C0S.T):A3i.po E0 (B3h c221 c229 c230) (B4h gl0 gl1 gl2) s0 0 (C0S.mk' s)=C3N gl1 c221 s.1.1 s.1.2.1 s.1.2.2.1 s.2.1 s.2.2.1:=by kernel_rfl
noncomputable def C5C (x7:(List Int)) (x8:Int) (x11:Int) (x9:(List Int)) (x10:(List Int)):Option U5:=if 0≤x11 then(if x11≤(x9.length:Int)then(if(x9.length:Int)≤(x9.length:Int)then(if(x9.length:Int)≤(x9.length:Int)then((c230 x7 (slice_ x9 x11 (x9.length:Int))).bind fun r1=>(B3 ((!r1.1)) (if 0≤wrap64 (x11+x8)then(if wrap64 (x11+x8)<((x9.take ((x11:Int).toNat)++r1.2++x9.drop (((x9.length:Int):Int).toNat)).length:Int)then(if(0:Int)≤32 then(if 0≤wrap64 ((wrap64 (x11+x8))-1)then(if wrap64 ((wrap64 (x11+x8))-1)<((x9.take ((x11:Int).toNat)++r1.2++x9.drop (((x9.length:Int):Int).toNat)).length:Int)then(if 0≤wrap64 (x8-1)then(if wrap64 (x8-1)<(x7.length:Int)then(if IntKind.u64.wrap ((rd x7 (wrap64 (x8-1)))+1)=0 then(none)else(if 0≤x11 then(if x11<(x10.length:Int)then(if 0≤x11 then(if x11<(x10.length:Int)then(gl2 x7 x8 x11 (mx 1 (IntKind.u64.wrap (Int.tdiv (IntKind.u64.wrap ((IntKind.u64.wrap ((rd (x9.take ((x11:Int).toNat)++r1.2++x9.drop (((x9.length:Int):Int).toNat)) (wrap64 (x11+x8)))*4294967296))+(rd (x9.take ((x11:Int).toNat)++r1.2++x9.drop (((x9.length:Int):Int).toNat)) (wrap64 ((wrap64 (x11+x8))-1))))) (IntKind.u64.wrap ((rd x7 (wrap64 (x8-1)))+1))))) 0 0 (x9.take ((x11:Int).toNat)++r1.2++x9.drop (((x9.length:Int):Int).toNat)) (x10.set (x11:Int).toNat (IntKind.u64.wrap ((rd x10 x11)+(mx 1 (IntKind.u64.wrap (Int.tdiv (IntKind.u64.wrap ((IntKind.u64.wrap ((rd (x9.take ((x11:Int).toNat)++r1.2++x9.drop (((x9.length:Int):Int).toNat)) (wrap64 (x11+x8)))*4294967296))+(rd (x9.take ((x11:Int).toNat)++r1.2++x9.drop (((x9.length:Int):Int).toNat)) (wrap64 ((wrap64 (x11+x8))-1))))) (IntKind.u64.wrap ((rd x7 (wrap64 (x8-1)))+1)))))))))else(none))else(none))else(none))else(none)))else(none))else(none))else(none))else(none))else(none))else(none))else(none)) (gl0 x7 x8 (wrap64 (x11-1)) (x9.take ((x11:Int).toNat)++r1.2++x9.drop (((x9.length:Int):Int).toNat)) x10)))else(none))else(none))else(none))else(none)
theorem E0b (s0:C6 A3i.ask.bl) (s:C3p.T):A3i.po E0 (B3h c221 c229 c230) (B4h gl0 gl1 gl2) s0 1 (C3p.mk' s)=C5C gl0 gl2 c230 s.1.1 s.1.2.1 s.1.2.2.1 s.2.1 s.2.2.1:=by kernel_rfl
noncomputable def C8A (x7:(List Int)) (x8:Int) (x11:Int) (x12:Int) (x13:Int) (x14:Int) (x9:(List Int)) (x10:(List Int)):Option U5:=if x14<x8 then(if 0≤x14 then(if x14<(x7.length:Int)then(if(0:Int)≤32 then(if 0≤wrap64 (x11+x14)then(if wrap64 (x11+x14)<(x9.length:Int)then(if rd x9 (wrap64 (x11+x14))<Go.bits .and .u64 (IntKind.u64.wrap ((IntKind.u64.wrap ((rd x7 x14)*x12))+x13)) 4294967295 then(if 0≤wrap64 (x11+x14)then(if wrap64 (x11+x14)<(x9.length:Int)then(if 0≤wrap64 (x11+x14)then(if wrap64 (x11+x14)<(x9.length:Int)then(if 0≤wrap64 (x11+x14)then(if wrap64 (x11+x14)<((x9.set (wrap64 (x11+x14):Int).toNat (IntKind.u64.wrap ((rd x9 (wrap64 (x11+x14)))+4294967296))).length:Int)then(if 0≤wrap64 (x11+x14)then(if wrap64 (x11+x14)<((x9.set (wrap64 (x11+x14):Int).toNat (IntKind.u64.wrap ((rd x9 (wrap64 (x11+x14)))+4294967296))).length:Int)then(gl2 x7 x8 x11 x12 (IntKind.u64.wrap (((IntKind.u64.wrap ((IntKind.u64.wrap ((rd x7 x14)*x12))+x13))/4294967296)+1)) (wrap64 (x14+1)) ((x9.set (wrap64 (x11+x14):Int).toNat (IntKind.u64.wrap ((rd x9 (wrap64 (x11+x14)))+4294967296))).set (wrap64 (x11+x14):Int).toNat (IntKind.u64.wrap ((rd (x9.set (wrap64 (x11+x14):Int).toNat (IntKind.u64.wrap ((rd x9 (wrap64 (x11+x14)))+4294967296))) (wrap64 (x11+x14)))-(Go.bits .and .u64 (IntKind.u64.wrap ((IntKind.u64.wrap ((rd x7 x14)*x12))+x13)) 4294967295)))) x10)else(none))else(none))else(none))else(none))else(none))else(none))else(none))else(none))else(if 0≤wrap64 (x11+x14)then(if wrap64 (x11+x14)<(x9.length:Int)then(if 0≤wrap64 (x11+x14)then(if wrap64 (x11+x14)<(x9.length:Int)then(gl2 x7 x8 x11 x12 ((IntKind.u64.wrap ((IntKind.u64.wrap ((rd x7 x14)*x12))+x13))/4294967296) (wrap64 (x14+1)) (x9.set (wrap64 (x11+x14):Int).toNat (IntKind.u64.wrap ((rd x9 (wrap64 (x11+x14)))-(Go.bits .and .u64 (IntKind.u64.wrap ((IntKind.u64.wrap ((rd x7 x14)*x12))+x13)) 4294967295)))) x10)else(none))else(none))else(none))else(none)))else(none))else(none))else(none))else(none))else(none))else(if 0≤wrap64 (x11+x8)then(if wrap64 (x11+x8)<(x9.length:Int)then(if 0≤wrap64 (x11+x8)then(if wrap64 (x11+x8)<(x9.length:Int)then(gl1 x7 x8 x11 (x9.set (wrap64 (x11+x8):Int).toNat (IntKind.u64.wrap ((rd x9 (wrap64 (x11+x8)))-x13))) x10)else(none))else(none))else(none))else(none))
theorem E9R (s0:C6 A3i.ask.bl) (s:C7p.T):A3i.po E0 (B3h c221 c229 c230) (B4h gl0 gl1 gl2) s0 2 (C7p.mk' s)=C8A gl1 gl2 s.1.1 s.1.2.1 s.1.2.2.1 s.1.2.2.2.1 s.1.2.2.2.2.1 s.1.2.2.2.2.2.1 s.2.1 s.2.2.1:=by kernel_rfl
noncomputable def C5g (x0:ByteArray) (x1:ByteArray):Option U5:=B3 ((F0 x1 (⟨#[]⟩:ByteArray))) (some ((⟨#[]⟩:ByteArray),(⟨#[]⟩:ByteArray))) ((c229 x0).bind fun r1=>((c229 x1).bind fun r2=>(if(r1.length+1)*8≤140737488355328 then(if 0≤mx 0 (wrap64 ((wrap64 ((r1.length:Int)-(r2.length:Int)))+1))then(if mx 0 (wrap64 ((wrap64 ((r1.length:Int)-(r2.length:Int)))+1))≤mx 0 (wrap64 ((wrap64 ((r1.length:Int)-(r2.length:Int)))+1))then(if(mx 0 (wrap64 ((wrap64 ((r1.length:Int)-(r2.length:Int)))+1)):Int).toNat≤35184372088832 then(gl0 r2 (r2.length:Int) (wrap64 (((List.replicate (mx 0 (wrap64 ((wrap64 ((r1.length:Int)-(r2.length:Int)))+1)):Int).toNat (0:Int)).length:Int)-1)) (r1++([0]:List Int)) (List.replicate (mx 0 (wrap64 ((wrap64 ((r1.length:Int)-(r2.length:Int)))+1)):Int).toNat (0:Int)))else(none))else(none))else(none))else(none))))
theorem F4I (s:A3i.ask.T):A3i.ev E0 (B3h c221 c229 c230) (B4h gl0 gl1 gl2) s=C5g gl0 c229 s.1.1 s.1.2.1:=by kernel_rfl
end
noncomputable def C4y:Sk:=⟨[(0, .d .st),(1, .d .st)],[]⟩
noncomputable def C7I (gl0:ByteArray→ByteArray→Option A0w):List (D3 A0w):=[⟨1,C4y,fun s=>gl0 s.1.1 s.1.2.1⟩]
noncomputable def C8e (c203:ByteArray→ByteArray→Option U5):List FE:=[C6v c203]
section
variable (gl0:ByteArray→ByteArray→Option A0w) (c203:ByteArray→ByteArray→Option U5)
noncomputable def C8a (x0:ByteArray) (x1:ByteArray):Option A0w:=B3 ((!(F0 x1 (⟨#[]⟩:ByteArray)))) ((c203 x0 x1).bind fun r1=>(gl0 x1 r1.2)) (some x0)
theorem E3K (s0:C6 B0w.ask.bl) (s:C4y.T):B0w.po E0 (C8e c203) (C7I gl0) s0 0 (C4y.mk' s)=C8a gl0 c203 s.1.1 s.1.2.1:=by kernel_rfl
noncomputable def C8i (x0:ByteArray) (x1:ByteArray):Option A0w:=gl0 x0 x1
theorem E3h (s:B0w.ask.T):B0w.ev E0 (C8e c203) (C7I gl0) s=C8i gl0 s.1.1 s.1.2.1:=by kernel_rfl
end
noncomputable def D2y (c180:ByteArray→ByteArray→Option A0w) (c198:Bool→ByteArray→Option A3H) (c203:ByteArray→ByteArray→Option U5):List FE:=[C7S c180,B5L c198,C6v c203]
section
variable (c180:ByteArray→ByteArray→Option A0w) (c198:Bool→ByteArray→Option A3H) (c203:ByteArray→ByteArray→Option U5)
noncomputable def B9R (x0:TI) (x1:TI):Option A6A:=B3 ((F0 x1.2 (⟨#[]⟩:ByteArray))) (some ((false,(⟨#[]⟩:ByteArray)),(⟨#[1]⟩:ByteArray))) ((c180 x0.2 x1.2).bind fun r1=>((c203 x0.2 r1).bind fun r2=>((c203 x1.2 r1).bind fun r3=>((c198 (!(x0.1==x1.1)) r2.1).bind fun r4=>(some ((r4.1,r4.2),r3.1))))))
theorem F0J (s:B5u.ask.T):B5u.ev E0 (D2y c180 c198 c203) [] s=B9R c180 c198 c203 s.1.1 s.1.2.1:=by kernel_rfl
end
noncomputable def D8R (c159:TI→Option A5r) (c160:TI→TI→Option A9h) (c161:TI→TI→Option A6Y) (c162:TQ→Option A5e) (c163:TI→TI→Option A6A):List FE:=[C7g c159,D5Y c160,C1O c161,C9n c162,C3G c163]
section
variable (c159:TI→Option A5r) (c160:TI→TI→Option A9h) (c161:TI→TI→Option A6Y) (c162:TQ→Option A5e) (c163:TI→TI→Option A6A)
noncomputable def B0L (x0:TQ) (x1:TQ):Option A6E:=B3 ((F0 x0.2 (⟨#[1]⟩:ByteArray))) (B3 ((F0 x1.2 (⟨#[1]⟩:ByteArray))) ((c160 x0.1 x1.1).bind fun r1=>((c159 (r1.1,r1.2)).bind fun r2=>(some (r2.1,r2.2)))) ((c162 x1).bind fun r3=>((c161 x0.1 (r3.1,r3.2)).bind fun r4=>((c162 x0).bind fun r5=>((c161 x1.1 (r5.1,r5.2)).bind fun r6=>((c160 (r4.1,r4.2) (r6.1,r6.2)).bind fun r7=>((c162 x0).bind fun r8=>((c162 x1).bind fun r9=>((c161 (r8.1,r8.2) (r9.1,r9.2)).bind fun r10=>((c163 (r7.1,r7.2) (r10.1,r10.2)).bind fun r11=>(some (r11.1,r11.2)))))))))))) ((c162 x1).bind fun r12=>((c161 x0.1 (r12.1,r12.2)).bind fun r13=>((c162 x0).bind fun r14=>((c161 x1.1 (r14.1,r14.2)).bind fun r15=>((c160 (r13.1,r13.2) (r15.1,r15.2)).bind fun r16=>((c162 x0).bind fun r17=>((c162 x1).bind fun r18=>((c161 (r17.1,r17.2) (r18.1,r18.2)).bind fun r19=>((c163 (r16.1,r16.2) (r19.1,r19.2)).bind fun r20=>(some (r20.1,r20.2)))))))))))
theorem E2B (s:B8r.ask.T):B8r.ev E0 (D8R c159 c160 c161 c162 c163) [] s=B0L c159 c160 c161 c162 c163 s.1.1 s.1.2.1:=by kernel_rfl
end
noncomputable def D0X (c81:Int→Option Y1):List FE:=[A5t c81]
section
variable (c81:Int→Option Y1)
noncomputable def B3D (x0:TP) (x1:Int):Option B0a:=if x1<(x0.length:Int)then(if 0≤x1 then(if x1<(x0.length:Int)then(some ((C5 ((false,(⟨#[]⟩:ByteArray)),(⟨#[]⟩:ByteArray)) x0 x1).1,(C5 ((false,(⟨#[]⟩:ByteArray)),(⟨#[]⟩:ByteArray)) x0 x1).2))else(none))else(none))else((c81 0).bind fun r1=>(some (r1.1,r1.2)))
theorem E1f (s:B7E.ask.T):B7E.ev E0 (D0X c81) [] s=B3D c81 s.1.1 s.1.2.1:=by kernel_rfl
end
noncomputable def C6H:Sk:=⟨[(0, .d (.li tQ)),(1, .d (.li tQ)),(5, .f (.a (.ref 5))),(6, .d (.it .i64))],[(5, .own tQ true)]⟩
noncomputable def C1I (gl0:TP→TP→Int→TP→Option Z6):List (D3 Z6):=[⟨3,C6H,fun s=>gl0 s.1.1 s.1.2.1 s.1.2.2.1 s.2.1⟩]
noncomputable def C7N (c48:TP→Option T8) (c101:TQ→TQ→Option A6E) (c102:TP→Int→Option B0a):List FE:=[A8A c48,C0U c101,D7A c102]
section
variable (gl0:TP→TP→Int→TP→Option Z6) (c48:TP→Option T8) (c101:TQ→TQ→Option A6E) (c102:TP→Int→Option B0a)
noncomputable def A7Y (x0:TP) (x1:TP) (x6:Int) (x5:TP):Option Z6:=if x6<mx (x0.length:Int) (x1.length:Int)then((c102 x0 x6).bind fun r1=>((c102 x1 x6).bind fun r2=>((c101 (r1.1,r1.2) (r2.1,r2.2)).bind fun r3=>(if(x5.length+1)*40≤140737488355328 then(gl0 x0 x1 (wrap64 (x6+1)) (x5++([(r3.1,r3.2)]:List TQ)))else(none)))))else((c48 x5).bind fun r4=>(some r4))
theorem F6W (s0:C6 D20.ask.bl) (s:C6H.T):D20.po E0 (C7N c48 c101 c102) (C1I gl0) s0 0 (C6H.mk' s)=A7Y gl0 c48 c101 c102 s.1.1 s.1.2.1 s.1.2.2.1 s.2.1:=by kernel_rfl
noncomputable def B20 (x0:TP) (x1:TP):Option Z6:=gl0 x0 x1 0 ([]:List TQ)
theorem e20 (s:D20.ask.T):D20.ev E0 (C7N c48 c101 c102) (C1I gl0) s=B20 gl0 s.1.1 s.1.2.1:=by kernel_rfl
end
noncomputable def B15 (x0:TP):Option R15:=some (wrap64 ((x0.length:Int)-1))
theorem e15 (s:D15.ask.T):D15.ev E0 [] [] s=B15 s.1.1:=by kernel_rfl
noncomputable def C3x (x0:ByteArray):Option A5Z:=B3 ((F0 x0 (⟨#[]⟩:ByteArray))) (some true) (if(0:Int)≤0 then(if 0<(x0.size:Int)then(some (decide (bt x0 0≠0)))else(none))else(none))
theorem F4G (s:B6O.ask.T):B6O.ev E0 [] [] s=C3x s.1.1:=by kernel_rfl
noncomputable def D4B (c178:ByteArray→Option A5Z):List FE:=[C3E c178]
section
variable (c178:ByteArray→Option A5Z)
noncomputable def C8K (x0:TI):Option B1s:=(c178 x0.2).bind fun r1=>(B3 (r1) (B3 ((!x0.1)) (some true) (some (!(F0 x0.2 (⟨#[]⟩:ByteArray))))) (some false))
theorem E5s (s:B8B.ask.T):B8B.ev E0 (D4B c178) [] s=C8K c178 s.1.1:=by kernel_rfl
end
noncomputable def C8S (x0:ByteArray):Option A6a:=if(x0.size:Int)>1024 then(some 4)else(some 0)
theorem E1a (s:B8G.ask.T):B8G.ev E0 [] [] s=C8S s.1.1:=by kernel_rfl
noncomputable def D5G (c218:ByteArray→Option A6a):List FE:=[C5f c218]
section
variable (c218:ByteArray→Option A6a)
noncomputable def C7r (x0:TI):Option B0k:=(c218 x0.2).bind fun r1=>(some r1)
theorem F1n (s:B7V.ask.T):B7V.ev E0 (D5G c218) [] s=C7r c218 s.1.1:=by kernel_rfl
end
noncomputable def D6q (c217:TI→Option B0k) (c218:ByteArray→Option A6a):List FE:=[D0r c217,C5f c218]
section
variable (c217:TI→Option B0k) (c218:ByteArray→Option A6a)
noncomputable def B0h (x0:TQ):Option B1G:=(c217 x0.1).bind fun r1=>(if r1≠0 then(some 4)else((c218 x0.2).bind fun r2=>(some r2)))
theorem E0y (s:B9A.ask.T):B9A.ev E0 (D6q c217 c218) [] s=B0h c217 c218 s.1.1:=by kernel_rfl
end
noncomputable def D4X (c177:TI→Option B1s) (c178:ByteArray→Option A5Z) (c179:TQ→Option B1G) (c180:ByteArray→ByteArray→Option A0w):List FE:=[D2p c177,C3E c178,D5W c179,C7S c180]
section
variable (c177:TI→Option B1s) (c178:ByteArray→Option A5Z) (c179:TQ→Option B1G) (c180:ByteArray→ByteArray→Option A0w)
noncomputable def A4u (x0:TQ):Option B1B:=(c177 x0.1).bind fun r1=>(B3 ((!r1)) (some 1) ((c178 x0.2).bind fun r2=>(B3 ((!r2)) (some 1) (B3 ((F0 x0.2 (⟨#[]⟩:ByteArray))) (some 1) ((c179 x0).bind fun r3=>(if r3≠0 then(some 4)else((c180 x0.1.2 x0.2).bind fun r4=>(B3 ((!(F0 r4 (⟨#[1]⟩:ByteArray)))) (some 1) (some 0)))))))))
theorem E6d (s:B6d.ask.T):B6d.ev E0 (D4X c177 c178 c179 c180) [] s=A4u c177 c178 c179 c180 s.1.1:=by kernel_rfl
end
noncomputable def C1S:Sk:=⟨[(0, .d (.li tQ)),(9, .d (.li tQ)),(10, .d (.it .i64)),(11, .d (.it .i64))],[]⟩
noncomputable def C0k (gl0:TP→TP→Int→Int→Option s9):List (D3 s9):=[⟨4,C1S,fun s=>gl0 s.1.1 s.1.2.1 s.1.2.2.1 s.1.2.2.2.1⟩]
noncomputable def C5S (c123:TQ→Option A6e) (c135:TQ→Option B1B):List FE:=[C5H c123,D4d c135]
section
variable (gl0:TP→TP→Int→Int→Option s9) (c123:TQ→Option A6e) (c135:TQ→Option B1B)
noncomputable def A9C (x0:TP) (x9:TP) (x10:Int) (x11:Int):Option s9:=if x11<x10 then(if 0≤x11 then(if x11<(x9.length:Int)then((c135 (C5 ((false,(⟨#[]⟩:ByteArray)),(⟨#[]⟩:ByteArray)) x9 x11)).bind fun r1=>(if r1≠0 then(some r1)else(gl0 x0 x9 x10 (wrap64 (x11+1)))))else(none))else(none))else(if(x0.length:Int)>0 then(if 0≤wrap64 ((x0.length:Int)-1)then(if wrap64 ((x0.length:Int)-1)<(x0.length:Int)then((c123 (C5 ((false,(⟨#[]⟩:ByteArray)),(⟨#[]⟩:ByteArray)) x0 (wrap64 ((x0.length:Int)-1)))).bind fun r2=>(if r2=0 then(some 1)else(some 0)))else(none))else(none))else(some 0))
theorem E2F (s0:C6 D69.ask.bl) (s:C1S.T):D69.po E0 (C5S c123 c135) (C0k gl0) s0 0 (C1S.mk' s)=A9C gl0 c123 c135 s.1.1 s.1.2.1 s.1.2.2.1 s.1.2.2.2.1:=by kernel_rfl
noncomputable def B69 (x0:TP):Option s9:=if(x0.length:Int)>65 then(some 4)else(gl0 x0 x0 (x0.length:Int) 0)
theorem e69 (s:D69.ask.T):D69.ev E0 (C5S c123 c135) (C0k gl0) s=B69 gl0 s.1.1:=by kernel_rfl
end
noncomputable def D7v (c81:Int→Option Y1):List FE:=[A5t c81]
section
variable (c81:Int→Option Y1)
noncomputable def B80 (x0:TP):Option R80:=if(x0.length:Int)=0 then((c81 0).bind fun r1=>(some (r1.1,r1.2)))else(if 0≤wrap64 ((x0.length:Int)-1)then(if wrap64 ((x0.length:Int)-1)<(x0.length:Int)then(some ((C5 ((false,(⟨#[]⟩:ByteArray)),(⟨#[]⟩:ByteArray)) x0 (wrap64 ((x0.length:Int)-1))).1,(C5 ((false,(⟨#[]⟩:ByteArray)),(⟨#[]⟩:ByteArray)) x0 (wrap64 ((x0.length:Int)-1))).2))else(none))else(none))
theorem e80 (s:D80.ask.T):D80.ev E0 (D7v c81) [] s=B80 c81 s.1.1:=by kernel_rfl
end
noncomputable def B82 (x0:TQ):Option R82:=some (F0 x0.2 (⟨#[1]⟩:ByteArray))
theorem e82 (s:D82.ask.T):D82.ev E0 [] [] s=B82 s.1.1:=by kernel_rfl
noncomputable def C6t:Sk:=⟨[(1, .f (.a (.ptr 1 0 []))),(24, .d (.li tQ)),(25, .d (.it .i64)),(26, .d (.it .i64))],[(1, .cell (.ag (.li tQ)) true)]⟩
noncomputable def C4W (gl0:TP→Int→Int→TP→Option Z8):List (D3 Z8):=[⟨7,C6t,fun s=>gl0 s.1.1 s.1.2.1 s.1.2.2.1 s.2.1⟩]
noncomputable def C8M (c15:TP→Option R15) (c69:TP→Option s9) (c80:TP→Option R80) (c81:Int→Option Y1) (c82:TQ→Option R82):List FE:=[B9B c15,B8g c69,C4V c80,A5t c81,D2W c82]
section
variable (gl0:TP→Int→Int→TP→Option Z8) (c15:TP→Option R15) (c69:TP→Option s9) (c80:TP→Option R80) (c81:Int→Option Y1) (c82:TQ→Option R82)
noncomputable def A7L (x24:TP) (x25:Int) (x26:Int) (x1:TP):Option Z8:=if x26<x25 then(if 0≤x26 then(if x26<(x24.length:Int)then((c82 (C5 ((false,(⟨#[]⟩:ByteArray)),(⟨#[]⟩:ByteArray)) x24 x26)).bind fun r1=>(B3 ((!r1)) (some 1) (gl0 x24 x25 (wrap64 (x26+1)) x1)))else(none))else(none))else((c15 x1).bind fun r2=>(if r2>24 then(some 4)else(some 0)))
theorem F1T (s0:C6 D13.ask.bl) (s:C6t.T):D13.po E0 (C8M c15 c69 c80 c81 c82) (C4W gl0) s0 0 (C6t.mk' s)=A7L gl0 c15 c82 s.1.1 s.1.2.1 s.1.2.2.1 s.2.1:=by kernel_rfl
noncomputable def B13 (x0:TP):Option Z8:=(c69 x0).bind fun r1=>(if r1≠0 then(some r1)else(if(x0.length:Int)<2 then(some 1)else((c80 x0).bind fun r2=>((c81 1).bind fun r3=>(B3 ((!(((r2.1.1==r3.1.1)&&(F0 r2.1.2 r3.1.2))&&(F0 r2.2 r3.2)))) (some 1) (gl0 x0 (x0.length:Int) 0 x0))))))
theorem e13 (s:D13.ask.T):D13.ev E0 (C8M c15 c69 c80 c81 c82) (C4W gl0) s=B13 gl0 c69 c80 c81 s.1.1:=by kernel_rfl
end
noncomputable def D3R (c13:TP→Option Z8) (c15:TP→Option R15) (c69:TP→Option s9):List FE:=[B5E c13,B9B c15,B8g c69]
section
variable (c13:TP→Option Z8) (c15:TP→Option R15) (c69:TP→Option s9)
noncomputable def B55 (x0:TP) (x1:TP):Option R55:=(c13 x0).bind fun r1=>(if r1≠0 then(some r1)else((c69 x1).bind fun r2=>(if r2=0 then((c15 x0).bind fun r3=>(if(x1.length:Int)>r3 then(some 3)else(some r2)))else(some r2))))
theorem e55 (s:D55.ask.T):D55.ev E0 (D3R c13 c15 c69) [] s=B55 c13 c15 c69 s.1.1 s.1.2.1:=by kernel_rfl
end
noncomputable def C3f:Sk:=⟨[(1, .d (.li (.li tQ))),(2, .f (.a (.ptr 2 0 []))),(16, .d (.li (.li tQ))),(17, .d (.it .i64)),(18, .d (.it .i64))],[(2, .cell (.ag (.li tQ)) true)]⟩
noncomputable def C3c (gl0:TF→TF→Int→Int→TP→Option R14):List (D3 R14):=[⟨7,C3f,fun s=>gl0 s.1.1 s.1.2.1 s.1.2.2.1 s.1.2.2.2.1 s.2.1⟩]
noncomputable def C3Q (c13:TP→Option Z8) (c55:TP→TP→Option R55):List FE:=[B5E c13,D1c c55]
section
variable (gl0:TF→TF→Int→Int→TP→Option R14) (c13:TP→Option Z8) (c55:TP→TP→Option R55)
noncomputable def A8p (x1:TF) (x16:TF) (x17:Int) (x18:Int) (x2:TP):Option R14:=if x18<x17 then(if 0≤x18 then(if x18<(x16.length:Int)then((c55 x2 (C5 ([]:List TQ) x16 x18)).bind fun r1=>(if r1≠0 then(some r1)else(gl0 x1 x16 x17 (wrap64 (x18+1)) x2)))else(none))else(none))else(if(x1.length:Int)>0 then(if 0≤wrap64 ((x1.length:Int)-1)then(if wrap64 ((x1.length:Int)-1)<(x1.length:Int)then(if((C5 ([]:List TQ) x1 (wrap64 ((x1.length:Int)-1))).length:Int)=0 then(some 1)else(some 0))else(none))else(none))else(some 0))
theorem F2E (s0:C6 D14.ask.bl) (s:C3f.T):D14.po E0 (C3Q c13 c55) (C3c gl0) s0 0 (C3f.mk' s)=A8p gl0 c55 s.1.1 s.1.2.1 s.1.2.2.1 s.1.2.2.2.1 s.2.1:=by kernel_rfl
noncomputable def B14 (x0:TP) (x1:TF):Option R14:=(c13 x0).bind fun r1=>(if r1≠0 then(some r1)else(if(x1.length:Int)>65 then(some 4)else(gl0 x1 x1 (x1.length:Int) 0 x0)))
theorem e14 (s:D14.ask.T):D14.ev E0 (C3Q c13 c55) (C3c gl0) s=B14 gl0 c13 s.1.1 s.1.2.1:=by kernel_rfl
end
noncomputable def C8m:Sk:=⟨[(17, .d (.li tQ)),(18, .d (.it .i64)),(19, .d (.it .i64))],[]⟩
noncomputable def C7K (gl0:TP→Int→Int→Option R70):List (D3 R70):=[⟨4,C8m,fun s=>gl0 s.1.1 s.1.2.1 s.1.2.2.1⟩]
noncomputable def C2S (c69:TP→Option s9):List FE:=[B8g c69]
section
variable (gl0:TP→Int→Int→Option R70) (c69:TP→Option s9)
noncomputable def A6w (x17:TP) (x18:Int) (x19:Int):Option R70:=if x19<x18 then(if 0≤x19 then(if x19<(x17.length:Int)then(if((((C5 ((false,(⟨#[]⟩:ByteArray)),(⟨#[]⟩:ByteArray)) x17 x19).1).2).size:Int)>8 then(some false)else(if(((C5 ((false,(⟨#[]⟩:ByteArray)),(⟨#[]⟩:ByteArray)) x17 x19).2).size:Int)>8 then(some false)else(gl0 x17 x18 (wrap64 (x19+1)))))else(none))else(none))else(some true)
theorem E1k (s0:C6 D70.ask.bl) (s:C8m.T):D70.po E0 (C2S c69) (C7K gl0) s0 0 (C8m.mk' s)=A6w gl0 s.1.1 s.1.2.1 s.1.2.2.1:=by kernel_rfl
noncomputable def B70 (x0:TP) (x1:Int):Option R70:=if(x0.length:Int)>wrap64 (x1+1)then(some false)else((c69 x0).bind fun r1=>(if r1≠0 then(some false)else(gl0 x0 (x0.length:Int) 0)))
theorem e70 (s:D70.ask.T):D70.ev E0 (C2S c69) (C7K gl0) s=B70 gl0 c69 s.1.1 s.1.2.1:=by kernel_rfl
end
noncomputable def D5x (c13:TP→Option Z8) (c15:TP→Option R15) (c70:TP→Int→Option R70):List FE:=[B5E c13,B9B c15,D0p c70]
section
variable (c13:TP→Option Z8) (c15:TP→Option R15) (c70:TP→Int→Option R70)
noncomputable def B49 (x0:TP) (x1:TP):Option R49:=(c13 x0).bind fun r1=>(if r1=0 then((c15 x0).bind fun r2=>(if(x1.length:Int)≤r2 then((c15 x0).bind fun r3=>((c70 x1 r3).bind fun r4=>(some r4)))else(some false)))else(some false))
theorem e49 (s:D49.ask.T):D49.ev E0 (D5x c13 c15 c70) [] s=B49 c13 c15 c70 s.1.1 s.1.2.1:=by kernel_rfl
end
noncomputable def D0A:Sk:=⟨[(19, .d (.li tQ)),(20, .d (.it .i64)),(21, .d (.it .i64))],[]⟩
noncomputable def C2F (gl0:TP→Int→Int→Option R79):List (D3 R79):=[⟨4,D0A,fun s=>gl0 s.1.1 s.1.2.1 s.1.2.2.1⟩]
noncomputable def C4v (c13:TP→Option Z8):List FE:=[B5E c13]
section
variable (gl0:TP→Int→Int→Option R79) (c13:TP→Option Z8)
noncomputable def A8b (x19:TP) (x20:Int) (x21:Int):Option R79:=if x21<x20 then(if 0≤x21 then(if x21<(x19.length:Int)then(if((((C5 ((false,(⟨#[]⟩:ByteArray)),(⟨#[]⟩:ByteArray)) x19 x21).1).2).size:Int)>4 then(some false)else(gl0 x19 x20 (wrap64 (x21+1))))else(none))else(none))else(some true)
theorem F3m (s0:C6 D79.ask.bl) (s:D0A.T):D79.po E0 (C4v c13) (C2F gl0) s0 0 (D0A.mk' s)=A8b gl0 s.1.1 s.1.2.1 s.1.2.2.1:=by kernel_rfl
noncomputable def B79 (x0:TP) (x1:Int):Option R79:=if(x0.length:Int)>wrap64 (x1+1)then(some false)else((c13 x0).bind fun r1=>(if r1≠0 then(some false)else(gl0 x0 (x0.length:Int) 0)))
theorem e79 (s:D79.ask.T):D79.ev E0 (C4v c13) (C2F gl0) s=B79 gl0 c13 s.1.1 s.1.2.1:=by kernel_rfl
end
noncomputable def C8T:Sk:=⟨[(4, .f (.a (.ptr 4 0 []))),(28, .d (.li (.li tQ))),(29, .d (.it .i64)),(30, .d (.it .i64))],[(4, .cell (.ag (.li tQ)) true)]⟩
noncomputable def C0a (gl0:TF→Int→Int→TP→Option R26):List (D3 R26):=[⟨4,C8T,fun s=>gl0 s.1.1 s.1.2.1 s.1.2.2.1 s.2.1⟩]
noncomputable def C5n (c14:TP→TF→Option R14) (c49:TP→TP→Option R49) (c79:TP→Int→Option R79):List FE:=[D1B c14,C9Z c49,D4q c79]
section
variable (gl0:TF→Int→Int→TP→Option R26) (c14:TP→TF→Option R14) (c49:TP→TP→Option R49) (c79:TP→Int→Option R79)
noncomputable def A8h (x28:TF) (x29:Int) (x30:Int) (x4:TP):Option R26:=if x30<x29 then(if 0≤x30 then(if x30<(x28.length:Int)then((c49 x4 (C5 ([]:List TQ) x28 x30)).bind fun r1=>(B3 ((!r1)) (some false) (gl0 x28 x29 (wrap64 (x30+1)) x4)))else(none))else(none))else(some true)
theorem F0Z (s0:C6 D26.ask.bl) (s:C8T.T):D26.po E0 (C5n c14 c49 c79) (C0a gl0) s0 0 (C8T.mk' s)=A8h gl0 c49 s.1.1 s.1.2.1 s.1.2.2.1 s.2.1:=by kernel_rfl
noncomputable def B26 (x0:TP) (x1:TF) (x2:Int) (x3:Int):Option R26:=(c79 x0 x2).bind fun r1=>(B3 ((!r1)) (some false) (if(x1.length:Int)>wrap64 (x3+1)then(some false)else((c14 x0 x1).bind fun r2=>(if r2≠0 then(some false)else(gl0 x1 (x1.length:Int) 0 x0)))))
theorem e26 (s:D26.ask.T):D26.ev E0 (C5n c14 c49 c79) (C0a gl0) s=B26 gl0 c14 c79 s.1.1 s.1.2.1 s.1.2.2.1 s.1.2.2.2.1:=by kernel_rfl
end
noncomputable def D1L (c159:TI→Option A5r) (c161:TI→TI→Option A6Y) (c162:TQ→Option A5e) (c163:TI→TI→Option A6A):List FE:=[C7g c159,C1O c161,C9n c162,C3G c163]
section
variable (c159:TI→Option A5r) (c161:TI→TI→Option A6Y) (c162:TQ→Option A5e) (c163:TI→TI→Option A6A)
noncomputable def A9W (x0:TQ) (x1:TQ):Option A3o:=B3 ((F0 x0.2 (⟨#[1]⟩:ByteArray))) (B3 ((F0 x1.2 (⟨#[1]⟩:ByteArray))) ((c161 x0.1 x1.1).bind fun r1=>((c159 (r1.1,r1.2)).bind fun r2=>(some (r2.1,r2.2)))) ((c161 x0.1 x1.1).bind fun r3=>((c162 x0).bind fun r4=>((c162 x1).bind fun r5=>((c161 (r4.1,r4.2) (r5.1,r5.2)).bind fun r6=>((c163 (r3.1,r3.2) (r6.1,r6.2)).bind fun r7=>(some (r7.1,r7.2)))))))) ((c161 x0.1 x1.1).bind fun r8=>((c162 x0).bind fun r9=>((c162 x1).bind fun r10=>((c161 (r9.1,r9.2) (r10.1,r10.2)).bind fun r11=>((c163 (r8.1,r8.2) (r11.1,r11.2)).bind fun r12=>(some (r12.1,r12.2)))))))
theorem D9l (s:B5U.ask.T):B5U.ev E0 (D1L c159 c161 c162 c163) [] s=A9W c159 c161 c162 c163 s.1.1 s.1.2.1:=by kernel_rfl
end
noncomputable def C6u:Sk:=⟨[(0, .d (.li tQ)),(1, .d (.li tQ)),(5, .f (.a (.ref 5))),(6, .d (.it .i64))],[(5, .own tQ true)]⟩
noncomputable def C2E:Sk:=⟨[(0, .d (.li tQ)),(1, .d (.li tQ)),(5, .f (.a (.ref 5))),(6, .d (.it .i64)),(7, .f (.a (.ptr 7 0 []))),(21, .d (.it .i64)),(22, .d (.it .i64))],[(5, .own tQ true),(7, .cell tQ true)]⟩
noncomputable def B6M (gl0:TP→TP→Int→TP→Option g8) (gl1:TP→TP→Int→Int→Int→TP→TQ→Option g8):List (D3 g8):=[⟨3,C6u,fun s=>gl0 s.1.1 s.1.2.1 s.1.2.2.1 s.2.1⟩,⟨7,C2E,fun s=>gl1 s.1.1 s.1.2.1 s.1.2.2.1 s.1.2.2.2.1 s.1.2.2.2.2.1 s.2.1 s.2.2.1⟩]
noncomputable def B8X (c48:TP→Option T8) (c81:Int→Option Y1) (c101:TQ→TQ→Option A6E) (c118:TQ→TQ→Option A3o):List FE:=[A8A c48,A5t c81,C0U c101,B6W c118]
section
variable (gl0:TP→TP→Int→TP→Option g8) (gl1:TP→TP→Int→Int→Int→TP→TQ→Option g8) (c48:TP→Option T8) (c81:Int→Option Y1) (c101:TQ→TQ→Option A6E) (c118:TQ→TQ→Option A3o)
noncomputable def A7J (x0:TP) (x1:TP) (x6:Int) (x5:TP):Option g8:=if x6<wrap64 ((wrap64 ((x0.length:Int)+(x1.length:Int)))-1)then((c81 0).bind fun r1=>(gl1 x0 x1 x6 (x0.length:Int) 0 x5 (r1.1,r1.2)))else((c48 x5).bind fun r2=>(some r2))
theorem F5X (s0:C6 D45.ask.bl) (s:C6u.T):D45.po E0 (B8X c48 c81 c101 c118) (B6M gl0 gl1) s0 0 (C6u.mk' s)=A7J gl1 c48 c81 s.1.1 s.1.2.1 s.1.2.2.1 s.2.1:=by kernel_rfl
noncomputable def A8L (x0:TP) (x1:TP) (x6:Int) (x21:Int) (x22:Int) (x5:TP) (x7:TQ):Option g8:=if x22<x21 then(if wrap64 (x6-x22)≥0 then(if wrap64 (x6-x22)<(x1.length:Int)then(if 0≤x22 then(if x22<(x0.length:Int)then(if 0≤wrap64 (x6-x22)then(if wrap64 (x6-x22)<(x1.length:Int)then((c118 (C5 ((false,(⟨#[]⟩:ByteArray)),(⟨#[]⟩:ByteArray)) x0 x22) (C5 ((false,(⟨#[]⟩:ByteArray)),(⟨#[]⟩:ByteArray)) x1 (wrap64 (x6-x22)))).bind fun r1=>((c101 x7 (r1.1,r1.2)).bind fun r2=>(gl1 x0 x1 x6 x21 (wrap64 (x22+1)) x5 (r2.1,r2.2))))else(none))else(none))else(none))else(none))else(gl1 x0 x1 x6 x21 (wrap64 (x22+1)) x5 x7))else(gl1 x0 x1 x6 x21 (wrap64 (x22+1)) x5 x7))else(if(x5.length+1)*40≤140737488355328 then(gl0 x0 x1 (wrap64 (x6+1)) (x5++([x7]:List TQ)))else(none))
theorem F3d (s0:C6 D45.ask.bl) (s:C2E.T):D45.po E0 (B8X c48 c81 c101 c118) (B6M gl0 gl1) s0 1 (C2E.mk' s)=A8L gl0 gl1 c101 c118 s.1.1 s.1.2.1 s.1.2.2.1 s.1.2.2.2.1 s.1.2.2.2.2.1 s.2.1 s.2.2.1:=by kernel_rfl
noncomputable def B45 (x0:TP) (x1:TP):Option g8:=gl0 x0 x1 0 ([]:List TQ)
theorem e45 (s:D45.ask.T):D45.ev E0 (B8X c48 c81 c101 c118) (B6M gl0 gl1) s=B45 gl0 s.1.1 s.1.2.1:=by kernel_rfl
end
noncomputable def C9L:Sk:=⟨[(0, .d (.li (.li tQ))),(3, .d (.it .i64))],[]⟩
noncomputable def C9u (gl0:TF→Int→Option A2N):List (D3 A2N):=[⟨2,C9L,fun s=>gl0 s.1.1 s.1.2.1⟩]
section
variable (gl0:TF→Int→Option A2N)
noncomputable def A7N (x0:TF) (x3:Int):Option A2N:=if x3>0 then(if 0≤wrap64 (x3-1)then(if wrap64 (x3-1)<(x0.length:Int)then(if((C5 ([]:List TQ) x0 (wrap64 (x3-1))).length:Int)=0 then(gl0 x0 (wrap64 (x3-1)))else(if(0:Int)≤0 then(if 0≤x3 then(if x3≤(x0.length:Int)then(if(x0.length:Int)≤(x0.length:Int)then(if(([]:List TP).length+(slice_ x0 0 x3).length)*24≤140737488355328 then(some (([]:List TP)++(slice_ x0 0 x3)))else(none))else(none))else(none))else(none))else(none)))else(none))else(none))else(if(0:Int)≤0 then(if 0≤x3 then(if x3≤(x0.length:Int)then(if(x0.length:Int)≤(x0.length:Int)then(if(([]:List TP).length+(slice_ x0 0 x3).length)*24≤140737488355328 then(some (([]:List TP)++(slice_ x0 0 x3)))else(none))else(none))else(none))else(none))else(none))
theorem E8x (s0:C6 B0N.ask.bl) (s:C9L.T):B0N.po E0 [] (C9u gl0) s0 0 (C9L.mk' s)=A7N gl0 s.1.1 s.1.2.1:=by kernel_rfl
noncomputable def B3H (x0:TF):Option A2N:=gl0 x0 (x0.length:Int)
theorem D9r (s:B0N.ask.T):B0N.ev E0 [] (C9u gl0) s=B3H gl0 s.1.1:=by kernel_rfl
end
noncomputable def C9h:Sk:=⟨[(1, .d (.it .i64)),(2, .f (.a (.ptr 2 0 []))),(5, .f (.a (.ref 5))),(6, .d (.it .i64))],[(2, .cell tQ true),(5, .own tQ true)]⟩
noncomputable def C9a (gl0:Int→Int→TQ→TP→Option R21):List (D3 R21):=[⟨3,C9h,fun s=>gl0 s.1.1 s.1.2.1 s.2.1 s.2.2.1⟩]
noncomputable def C3L (c48:TP→Option T8) (c81:Int→Option Y1):List FE:=[A8A c48,A5t c81]
section
variable (gl0:Int→Int→TQ→TP→Option R21) (c48:TP→Option T8) (c81:Int→Option Y1)
noncomputable def A7t (x1:Int) (x6:Int) (x2:TQ) (x5:TP):Option R21:=if x6<x1 then((c81 0).bind fun r1=>(if(x5.length+1)*40≤140737488355328 then(gl0 x1 (wrap64 (x6+1)) x2 (x5++([(r1.1,r1.2)]:List TQ)))else(none)))else(if(x5.length+1)*40≤140737488355328 then((c48 (x5++([x2]:List TQ))).bind fun r2=>(some r2))else(none))
theorem E5A (s0:C6 D21.ask.bl) (s:C9h.T):D21.po E0 (C3L c48 c81) (C9a gl0) s0 0 (C9h.mk' s)=A7t gl0 c48 c81 s.1.1 s.1.2.1 s.2.1 s.2.2.1:=by kernel_rfl
noncomputable def B21 (x0:TQ) (x1:Int):Option R21:=gl0 x1 0 x0 ([]:List TQ)
theorem e21 (s:D21.ask.T):D21.ev E0 (C3L c48 c81) (C9a gl0) s=B21 gl0 s.1.1 s.1.2.1:=by kernel_rfl
end
noncomputable def C4a:Sk:=⟨[(3, .f (.a (.ptr 3 0 []))),(5, .f (.a (.ref 5))),(8, .d (.li tQ)),(9, .d (.it .i64)),(10, .d (.it .i64))],[(3, .cell tQ true),(5, .own tQ true)]⟩
noncomputable def C2G (gl0:TP→Int→Int→TQ→TP→Option R98):List (D3 R98):=[⟨3,C4a,fun s=>gl0 s.1.1 s.1.2.1 s.1.2.2.1 s.2.1 s.2.2.1⟩]
noncomputable def C7H (c48:TP→Option T8) (c118:TQ→TQ→Option A3o):List FE:=[A8A c48,B6W c118]
section
variable (gl0:TP→Int→Int→TQ→TP→Option R98) (c48:TP→Option T8) (c118:TQ→TQ→Option A3o)
noncomputable def A7A (x8:TP) (x9:Int) (x10:Int) (x3:TQ) (x5:TP):Option R98:=if x10<x9 then(if 0≤x10 then(if x10<(x8.length:Int)then((c118 (C5 ((false,(⟨#[]⟩:ByteArray)),(⟨#[]⟩:ByteArray)) x8 x10) x3).bind fun r1=>(if(x5.length+1)*40≤140737488355328 then(gl0 x8 x9 (wrap64 (x10+1)) x3 (x5++([(r1.1,r1.2)]:List TQ)))else(none)))else(none))else(none))else((c48 x5).bind fun r2=>(some r2))
theorem D9B (s0:C6 D98.ask.bl) (s:C4a.T):D98.po E0 (C7H c48 c118) (C2G gl0) s0 0 (C4a.mk' s)=A7A gl0 c48 c118 s.1.1 s.1.2.1 s.1.2.2.1 s.2.1 s.2.2.1:=by kernel_rfl
noncomputable def B98 (x0:TP) (x1:TQ):Option R98:=gl0 x0 (x0.length:Int) 0 x1 ([]:List TQ)
theorem e98 (s:D98.ask.T):D98.ev E0 (C7H c48 c118) (C2G gl0) s=B98 gl0 s.1.1 s.1.2.1:=by kernel_rfl
end
noncomputable def D6E (c20:TP→TP→Option Z6) (c81:Int→Option Y1) (c98:TP→TQ→Option R98):List FE:=[B4E c20,A5t c81,D6s c98]
section
variable (c20:TP→TP→Option Z6) (c81:Int→Option Y1) (c98:TP→TQ→Option R98)
noncomputable def B51 (x0:TP) (x1:TP):Option R51:=(c81 (-1)).bind fun r1=>((c98 x1 (r1.1,r1.2)).bind fun r2=>((c20 x0 r2).bind fun r3=>(some r3)))
theorem e51 (s:D51.ask.T):D51.ev E0 (D6E c20 c81 c98) [] s=B51 c20 c81 c98 s.1.1 s.1.2.1:=by kernel_rfl
end
noncomputable def B6z (x0:TQ):Option B0J:=B3 ((F0 x0.1.2 (⟨#[]⟩:ByteArray))) (some (x0.1,x0.2)) (some ((x0.1.1,x0.2),x0.1.2))
theorem F5C (s:B7k.ask.T):B7k.ev E0 [] [] s=B6z s.1.1:=by kernel_rfl
noncomputable def D1h (c118:TQ→TQ→Option A3o) (c157:TQ→Option B0J):List FE:=[B6W c118,D8B c157]
section
variable (c118:TQ→TQ→Option A3o) (c157:TQ→Option B0J)
noncomputable def B99 (x0:TQ) (x1:TQ):Option R99:=(c157 x1).bind fun r1=>((c118 x0 (r1.1,r1.2)).bind fun r2=>(some (r2.1,r2.2)))
theorem e99 (s:D99.ask.T):D99.ev E0 (D1h c118 c157) [] s=B99 c118 c157 s.1.1 s.1.2.1:=by kernel_rfl
end
noncomputable def C6M:Sk:=⟨[(1, .d (.li tQ)),(6, .d (.li tQ)),(7, .d (.li tQ))],[]⟩
noncomputable def C2p (gl0:TP→TP→TP→Option A2W):List (D3 A2W):=[⟨3,C6M,fun s=>gl0 s.1.1 s.1.2.1 s.1.2.2.1⟩]
noncomputable def C3a (c20:TP→TP→Option Z6) (c21:TQ→Int→Option R21) (c45:TP→TP→Option g8) (c48:TP→Option T8) (c51:TP→TP→Option R51) (c80:TP→Option R80) (c99:TQ→TQ→Option R99):List FE:=[B4E c20,D7V c21,C4A c45,A8A c48,C7z c51,C4V c80,D4y c99]
section
variable (gl0:TP→TP→TP→Option A2W) (c20:TP→TP→Option Z6) (c21:TQ→Int→Option R21) (c45:TP→TP→Option g8) (c48:TP→Option T8) (c51:TP→TP→Option R51) (c80:TP→Option R80) (c99:TQ→TQ→Option R99)
noncomputable def A7D (x1:TP) (x6:TP) (x7:TP):Option A2W:=if(x7.length:Int)≥(x1.length:Int)then((c80 x7).bind fun r1=>((c80 x1).bind fun r2=>((c99 (r1.1,r1.2) (r2.1,r2.2)).bind fun r3=>((c21 (r3.1,r3.2) (wrap64 ((x7.length:Int)-(x1.length:Int)))).bind fun r4=>((c20 x6 r4).bind fun r5=>((c45 r4 x1).bind fun r6=>((c51 x7 r6).bind fun r7=>(gl0 x1 r5 r7))))))))else(some (x6,x7))
theorem E8h (s0:C6 B1J.ask.bl) (s:C6M.T):B1J.po E0 (C3a c20 c21 c45 c48 c51 c80 c99) (C2p gl0) s0 0 (C6M.mk' s)=A7D gl0 c20 c21 c45 c51 c80 c99 s.1.1 s.1.2.1 s.1.2.2.1:=by kernel_rfl
noncomputable def B4x (x0:TP) (x1:TP):Option A2W:=(c48 x0).bind fun r1=>(gl0 x1 ([]:List TQ) r1)
theorem F3s (s:B1J.ask.T):B1J.ev E0 (C3a c20 c21 c45 c48 c51 c80 c99) (C2p gl0) s=B4x gl0 c48 s.1.1 s.1.2.1:=by kernel_rfl
end
noncomputable def D1n (c210:TP→TP→Option A2W):List FE:=[D5h c210]
section
variable (c210:TP→TP→Option A2W)
noncomputable def B3u (x0:TP) (x1:TP):Option B1w:=(c210 x0 x1).bind fun r1=>(some r1.2)
theorem E5m (s:B8w.ask.T):B8w.ev E0 (D1n c210) [] s=B3u c210 s.1.1 s.1.2.1:=by kernel_rfl
end
noncomputable def D4K (c167:TP→TP→Option B1w):List FE:=[D3h c167]
section
variable (c167:TP→TP→Option B1w)
noncomputable def B4b (x0:TP) (x1:TP):Option B0q:=(c167 x1 x0).bind fun r1=>(some r1)
theorem E1o (s:B8m.ask.T):B8m.ev E0 (D4K c167) [] s=B4b c167 s.1.1 s.1.2.1:=by kernel_rfl
end
noncomputable def C9J:Sk:=⟨[(1, .d (.li (.li tQ))),(2, .d (.li (.li tQ))),(3, .f (.a (.ptr 3 0 []))),(7, .f (.a (.ref 7))),(8, .d (.it .i64))],[(3, .cell (.ag (.li tQ)) true),(7, .own (.li tQ) true)]⟩
noncomputable def C0e:Sk:=⟨[(1, .d (.li (.li tQ))),(2, .d (.li (.li tQ))),(3, .f (.a (.ptr 3 0 []))),(7, .f (.a (.ref 7))),(8, .d (.it .i64)),(9, .d (.li tQ)),(22, .d (.it .i64)),(23, .d (.it .i64))],[(3, .cell (.ag (.li tQ)) true),(7, .own (.li tQ) true)]⟩
noncomputable def B8C (gl0:TF→TF→Int→TP→TF→Option u7) (gl1:TF→TF→Int→TP→Int→Int→TP→TF→Option u7):List (D3 u7):=[⟨3,C9J,fun s=>gl0 s.1.1 s.1.2.1 s.1.2.2.1 s.2.1 s.2.2.1⟩,⟨7,C0e,fun s=>gl1 s.1.1 s.1.2.1 s.1.2.2.1 s.1.2.2.2.1 s.1.2.2.2.2.1 s.1.2.2.2.2.2.1 s.2.1 s.2.2.1⟩]
noncomputable def B9m (c20:TP→TP→Option Z6) (c45:TP→TP→Option g8) (c104:TF→Option A2N) (c109:TP→TP→Option B0q):List FE:=[B4E c20,C4A c45,D3H c104,D6V c109]
section
variable (gl0:TF→TF→Int→TP→TF→Option u7) (gl1:TF→TF→Int→TP→Int→Int→TP→TF→Option u7) (c20:TP→TP→Option Z6) (c45:TP→TP→Option g8) (c104:TF→Option A2N) (c109:TP→TP→Option B0q)
noncomputable def A7Q (x1:TF) (x2:TF) (x8:Int) (x3:TP) (x7:TF):Option u7:=if x8<wrap64 ((wrap64 ((x1.length:Int)+(x2.length:Int)))-1)then(gl1 x1 x2 x8 ([]:List TQ) (x1.length:Int) 0 x3 x7)else((c104 x7).bind fun r1=>(some r1))
theorem E6h (s0:C6 D30.ask.bl) (s:C9J.T):D30.po E0 (B9m c20 c45 c104 c109) (B8C gl0 gl1) s0 0 (C9J.mk' s)=A7Q gl1 c104 s.1.1 s.1.2.1 s.1.2.2.1 s.2.1 s.2.2.1:=by kernel_rfl
noncomputable def A9D (x1:TF) (x2:TF) (x8:Int) (x9:TP) (x22:Int) (x23:Int) (x3:TP) (x7:TF):Option u7:=if x23<x22 then(if wrap64 (x8-x23)≥0 then(if wrap64 (x8-x23)<(x2.length:Int)then(if 0≤x23 then(if x23<(x1.length:Int)then(if 0≤wrap64 (x8-x23)then(if wrap64 (x8-x23)<(x2.length:Int)then((c45 (C5 ([]:List TQ) x1 x23) (C5 ([]:List TQ) x2 (wrap64 (x8-x23)))).bind fun r1=>((c20 x9 r1).bind fun r2=>(gl1 x1 x2 x8 r2 x22 (wrap64 (x23+1)) x3 x7)))else(none))else(none))else(none))else(none))else(gl1 x1 x2 x8 x9 x22 (wrap64 (x23+1)) x3 x7))else(gl1 x1 x2 x8 x9 x22 (wrap64 (x23+1)) x3 x7))else((c109 x3 x9).bind fun r3=>(if(x7.length+1)*24≤140737488355328 then(gl0 x1 x2 (wrap64 (x8+1)) x3 (x7++([r3]:List TP)))else(none)))
theorem E1j (s0:C6 D30.ask.bl) (s:C0e.T):D30.po E0 (B9m c20 c45 c104 c109) (B8C gl0 gl1) s0 1 (C0e.mk' s)=A9D gl0 gl1 c20 c45 c109 s.1.1 s.1.2.1 s.1.2.2.1 s.1.2.2.2.1 s.1.2.2.2.2.1 s.1.2.2.2.2.2.1 s.2.1 s.2.2.1:=by kernel_rfl
noncomputable def B30 (x0:TP) (x1:TF) (x2:TF):Option u7:=gl0 x1 x2 0 x0 ([]:List TP)
theorem e30 (s:D30.ask.T):D30.ev E0 (B9m c20 c45 c104 c109) (B8C gl0 gl1) s=B30 gl0 s.1.1 s.1.2.1 s.1.2.2.1:=by kernel_rfl
end
noncomputable def D3l (c83:TP→(List TF)→Option U3) (c85:TP→TF→TP→Option R85) (c124:TP→TP→Option A3f) (c128:TF→Option A6O):List FE:=[A6z c83,C8s c85,B8a c124,C3J c128]
section
variable (c83:TP→(List TF)→Option U3) (c85:TP→TF→TP→Option R85) (c124:TP→TP→Option A3f) (c128:TF→Option A6O)
noncomputable def B52 (x0:TP) (x1:TF) (x2:TP):Option R52:=(c83 x0 ([x1]:List TF)).bind fun r1=>(if r1≠0 then(some (([]:List TQ),r1))else((c124 x0 x2).bind fun r2=>(if r2≠0 then(some (([]:List TQ),r2))else((c85 x0 x1 x2).bind fun r3=>((c128 ([r3]:List TP)).bind fun r4=>(B3 (r4) (some (([]:List TQ),4)) (some (r3,0))))))))
theorem e52 (s:D52.ask.T):D52.ev E0 (D3l c83 c85 c124 c128) [] s=B52 c83 c85 c124 c128 s.1.1 s.1.2.1 s.1.2.2.1:=by kernel_rfl
end
noncomputable def D5f (c127:TP→TF→TF→Option T6):List FE:=[C3X c127]
section
variable (c127:TP→TF→TF→Option T6)
noncomputable def C7G (x0:TP) (x1:TF) (x2:TF):Option B1p:=(c127 x0 x1 x2).bind fun r1=>(some r1)
theorem E2e (s:B9L.ask.T):B9L.ev E0 (D5f c127) [] s=C7G c127 s.1.1 s.1.2.1 s.1.2.2.1:=by kernel_rfl
end
noncomputable def D5m (c108:TF→Option A1U) (c129:TP→TF→TF→Option B1p):List FE:=[B3F c108,D1t c129]
section
variable (c108:TF→Option A1U) (c129:TP→TF→TF→Option B1p)
noncomputable def B4A (x0:(TP×TF×TF×Unit)):Option B1v:=(c129 x0.1 x0.2.1 x0.2.2.1).bind fun r1=>((c108 r1).bind fun r2=>(B3 (r2) (some (([]:List TP),4)) (some (r1,0))))
theorem E8u (s:B6u.ask.T):B6u.ev E0 (D5m c108 c129) [] s=B4A c108 c129 s.1.1:=by kernel_rfl
end
noncomputable def D7g (c83:TP→(List TF)→Option U3) (c111Mul:(TP×TF×TF×Unit)→Option B1v):List FE:=[A6z c83,D6Y c111Mul]
section
variable (c83:TP→(List TF)→Option U3) (c111Mul:(TP×TF×TF×Unit)→Option B1v)
noncomputable def B53 (x0:TP) (x1:TF) (x2:TF):Option R53:=(c83 x0 ([x1,x2]:List TF)).bind fun r1=>(if r1≠0 then(some (([]:List TP),r1))else((c111Mul (x0,x1,x2,())).bind fun r2=>(some (r2.1,r2.2))))
theorem e53 (s:D53.ask.T):D53.ev E0 (D7g c83 c111Mul) [] s=B53 c83 c111Mul s.1.1 s.1.2.1 s.1.2.2.1:=by kernel_rfl
end
noncomputable def D4w (c16:Option R16) (c18:TP→TP→Option t6) (c20:TP→TP→Option Z6) (c26:TP→TF→Int→Int→Option R26) (c29:TF→TF→Option R29) (c30:TP→TF→TF→Option u7) (c49:TP→TP→Option R49) (c50:TP→TF→TP→Option R50) (c51:TP→TP→Option R51) (c52:TP→TF→TP→Option R52) (c53:TP→TF→TF→Option R53):List FE:=[D2K c16,B8E c18,B4E c20,D4r c26,C5s c29,D5o c30,C9Z c49,C1X c50,C7z c51,D6F c52,D3o c53]
section
variable (c16:Option R16) (c18:TP→TP→Option t6) (c20:TP→TP→Option Z6) (c26:TP→TF→Int→Int→Option R26) (c29:TF→TF→Option R29) (c30:TP→TF→TF→Option u7) (c49:TP→TP→Option R49) (c50:TP→TF→TP→Option R50) (c51:TP→TP→Option R51) (c52:TP→TF→TP→Option R52) (c53:TP→TF→TF→Option R53)
noncomputable def B8 (x0:TP) (x1:TF) (x2:TP):Option R8:=(c26 x0 x1 3 3).bind fun r1=>(B3 ((!r1)) ((c16).bind fun r2=>(some r2)) ((c49 x0 x2).bind fun r3=>(B3 ((!r3)) ((c16).bind fun r4=>(some r4)) ((c50 x0 x1 x2).bind fun r5=>((c51 ([]:List TQ) x2).bind fun r6=>((c50 x0 r5.1 r6).bind fun r7=>((c52 x0 r5.1 x2).bind fun r8=>((c20 x2 x2).bind fun r9=>((c52 x0 x1 r9).bind fun r10=>((c30 x0 x1 x1).bind fun r11=>((c50 x0 r11 x2).bind fun r12=>((c53 x0 r5.1 r5.1).bind fun r13=>(if wrap64 ((wrap64 ((wrap64 ((wrap64 ((wrap64 (r5.2+r7.2))+r8.2))+r10.2))+r12.2))+r13.2)=0 then((c29 r7.1 x1).bind fun r14=>(B3 (r14) ((c18 r8.1 r10.1).bind fun r15=>(B3 (r15) ((c29 r12.1 r13.1).bind fun r16=>(B3 (r16) ((c16).bind fun r17=>(some r17)) (some false))) (some false))) (some false)))else(some false))))))))))))))
theorem e8 (s:D8.ask.T):D8.ev E0 (D4w c16 c18 c20 c26 c29 c30 c49 c50 c51 c52 c53) [] s=B8 c16 c18 c20 c26 c29 c30 c49 c50 c51 c52 c53 s.1.1 s.1.2.1 s.1.2.2.1:=by kernel_rfl
end
end Go.Proofs.YtijohnkgomcdbaaGreatV
namespace Go.Proofs.YtijohnkgomcdbaaGreatE
open Go.RowKit Go.Proofs.YtijohnkgomcdbaaGreatW.PrintWords Go.Proofs.YtijohnkgomcdbaaGreatW.PrintLast Go.Proofs.YtijohnkgomcdbaaGreatW.PrintMore
section
variable {α β:Type}
theorem A0.iteL {p:Prop} [Decidable p] {a b t:Option α} (h1:p→A0 a t) (h2:¬p→A0 b t):A0 (if p then a else b) t:=by
 by_cases h:p
 ·rw [if_pos h];exact h1 h
 ·rw [if_neg h];exact h2 h
theorem A0.bindL {x:Option β} {f:β→Option α} {t:Option α} (h:∀v,x=some v→A0 (f v) t):A0 (x.bind f) t:=by
 cases hx:x with
 |none=>intro r hr;cases hr
 |some v=>exact h v hx
theorem A0.bindK {x:Option β} {v:β} {f:β→Option α} {t:Option α} (hx:x=some v) (h:A0 (f v) t):A0 (x.bind f) t:=by rw [hx];exact h
theorem A0.posL {p:Prop} [Decidable p] {t a b:Option α} (hp:p) (h:A0 a t):A0 (if p then a else b) t:=by rw [if_pos hp];exact h
theorem A0.negL {p:Prop} [Decidable p] {t a b:Option α} (hp:¬p) (h:A0 b t):A0 (if p then a else b) t:=by rw [if_neg hp];exact h
theorem A0.posR {p:Prop} [Decidable p] {t a b:Option α} (hp:p) (h:A0 t a):A0 t (if p then a else b):=by rw [if_pos hp];exact h
theorem A0.negR {p:Prop} [Decidable p] {t a b:Option α} (hp:¬p) (h:A0 t b):A0 t (if p then a else b):=by rw [if_neg hp];exact h
theorem A0.nnegR {p:Prop} [Decidable p] {t a b:Option α} (hp:p) (h:A0 t b):A0 t (if¬p then a else b):=by rw [if_neg (fun q=>q hp)];exact h
theorem A0.bindR {x:Option β} {v:β} {f:β→Option α} {t:Option α} (hx:x=some v) (h:A0 t (f v)):A0 t (x.bind f):=by rw [hx];exact h
theorem A0.ctR {b:Bool} {t x y:Option α} (hp:b=true) (h:A0 t x):A0 t (B3 b x y):=by rw [hp];exact h
theorem A0.cfR {b:Bool} {t x y:Option α} (hp:¬b=true) (h:A0 t y):A0 t (B3 b x y):=by
 rw [Bool.eq_false_iff.2 hp];exact h
theorem I3:ByteArray.empty=⟨#[]⟩:=id rfl
theorem I4 (x:Int):IntKind.u64.wrap (x%256)=x%256:=by
 show x%256%18446744073709551616=x%256
 omega
theorem H7 (b:Bool):(b=false)=¬(b=true):=by cases b<;>simp
theorem H5 {p q:Prop} [Decidable (p∧q)] [Decidable p] [Decidable q] (a b:α):(if p∧q then a else b)=if p then(if q then a else b)else b:=by
 by_cases h:p<;>by_cases k:q<;>simp [h,k]
theorem H6 {p q:Prop} [Decidable (p∨q)] [Decidable p] [Decidable q] (a b:α):(if p∨q then a else b)=if p then a else(if q then a else b):=by
 by_cases h:p<;>by_cases k:q<;>simp [h,k]
theorem v5 {τ:Type} (l:List τ) (i h:Int):slice_ l i h=(l.take h.toNat).drop i.toNat:=id rfl
theorem G0 (a:β) (f:β→Option α):(some a).bind f=f a:=id rfl
theorem o4 {γ:Type} (x:Option γ) (f:γ→Option β) (g:β→Option α):(x.bind f).bind g=x.bind fun y=>(f y).bind g:=by cases x<;>rfl
theorem X0 {p:Prop} [Decidable p] (x y:Option β) (f:β→Option α):(if p then x else y).bind f=if p then x.bind f else y.bind f:=by by_cases h:p<;>simp [h]
theorem I5 (l:List UInt8):l.isEmpty=(l==[]):=by cases l<;>rfl
theorem I2 (x:Int):IntKind.u8.wrap x=x%256:=id rfl
theorem H9 (a:Array UInt8):(⟨a⟩:ByteArray).toList=a.toList:=ByteArray.toList_eq _
theorem m7 (b:Bool) (x y:Option α):B3 b x y=if b=true then x else y:=by cases b<;>rfl
theorem I0 (x y:Int):(x==y)=decide (x=y):=id rfl
theorem BR {g:Prop} (h:g:=by
 (try simp only [F5,List.take_append_drop,List.drop_length,List.append_nil,Int.zero_sub,Int.toNat_natCast,Int.reduceToNat,Int.zero_add,List.take_zero,List.nil_append,List.append_assoc,List.length_set,X0,List.take_left,I3,bne,I0,decide_not,I4,if_true,if_false,Bool.false_eq_true,o4,v5,List.drop_zero,List.take_length,I2,G0,m7,C5,ite_not,Bool.and_eq_true,Bool.or_eq_true,Bool.not_eq_true',H7,Bool.not_eq_false',beq_iff_eq,decide_eq_true_eq,I5,H5,H6,ne_eq,H9,List.toList_toArray])
 repeat' first
 | (with_reducible exact A0.none _)
 | (with_reducible exact A0.refl _)
 | (with_reducible refine A0.posR (by with_reducible assumption) ?_)
 | (with_reducible refine A0.negR (by with_reducible assumption) ?_)
 | (with_reducible refine A0.nnegR (by with_reducible assumption) ?_)
 | (with_reducible refine A0.bindR (by with_reducible assumption) ?_)
 | (with_reducible refine A0.ctR (by with_reducible assumption) ?_)
 | (with_reducible refine A0.cfR (by with_reducible assumption) ?_)
 | (with_reducible refine A0.posL (by with_reducible assumption) ?_)
 | (with_reducible refine A0.negL (by with_reducible assumption) ?_)
 | (with_reducible refine A0.iteL (fun _=>?_) (fun _=>?_))
 | (with_reducible refine A0.bindK (by with_reducible assumption) ?_)
 | (with_reducible refine A0.bindL (fun _ _=>?_))
 | (refine A0.posR (by first|decide|exact Int.le_refl _|omega|assumption) ?_)
 | (refine A0.negR (by first|decide|omega) ?_)):g:=h
end
end Go.Proofs.YtijohnkgomcdbaaGreatE
namespace Go.Proofs.YtijohnkgomcdbaaGreatV
open Go Go.RowKit YtijohnkgomcdbaaGreat YtijohnkgomcdbaaGreatE
noncomputable abbrev N5 (k:Nat) (x0:Int) (x1:Int) (x2:Int):Option A5K:=All.bits_Add64.f x0 x1 x2
noncomputable abbrev b9 (k:Nat) (x0:Int) (x1:Int) (x2:Int):Option A7R:=All.bits_Sub64.f x0 x1 x2
noncomputable abbrev B4r (k:Nat) (x0:Int):Option B2M:=All.bits_Len64.f x0
noncomputable abbrev M7 (k:Nat) (y0:List Int):Option s7:=(All.exact_trim.f k y0).bind fun r=>some ((r.length:Int),r++y0.drop r.length)
noncomputable abbrev a9 (k:Nat) (y0:List Int):Option A1G:=(All.galoisref01_trim.f k y0).bind fun r=>some ((r.length:Int),r++y0.drop r.length)
noncomputable abbrev v8 (k:Nat) (x1:List Int) (y0:List Int):Option A2M:=(All.galoisref01_below.f k y0 x1).bind fun r=>some (r,y0)
noncomputable abbrev A3J (k:Nat) (x0:TP):Option B2a:=A6C x0
end Go.Proofs.YtijohnkgomcdbaaGreatV
set_option maxRecDepth 100000
namespace Go.Proofs.YtijohnkgomcdbaaGreatV
open Go Go.RowKit YtijohnkgomcdbaaGreat YtijohnkgomcdbaaGreatE YtijohnkgomcdbaaGreatW.PrintWords YtijohnkgomcdbaaGreatW.PrintLast YtijohnkgomcdbaaGreatW.PrintMore
noncomputable abbrev S5 (k:Nat) (x0:TI):Option A3C:=A3g x0
noncomputable abbrev A0b (k:Nat) (x0:(List Int)):Option A2a:=All.exact_trim.f k x0
noncomputable abbrev I1 (k:Nat) (x0:(List Int)):Option L8:=All.exact_pack.f k x0
noncomputable abbrev A7w (k:Nat) (x0:Int):Option B1Q:=All.exact_NatOf.f k x0
noncomputable abbrev A6U (k:Nat) (x0:Int):Option B0S:=All.exact_IntOf.f k x0
noncomputable abbrev E6 (k:Nat) (x0:Int):Option Y7:=B89 (S5 k) (A6U k) x0
noncomputable abbrev J9 (k:Nat) (x0:TQ):Option A1O:=C7Z x0
noncomputable abbrev X7 (k:Nat) (x0:ByteArray):Option A5a:=All.natural_Check.f k x0
noncomputable abbrev A6v (k:Nat):Option B0j:=All.integer_zero.f
noncomputable abbrev t5 (k:Nat) (x0:TI):Option B0M:=All.integer_Check.f k x0.1 x0.2
noncomputable abbrev K2 (k:Nat) (x0:ByteArray):Option V7:=All.exact_words.f k x0
noncomputable abbrev A0t (k:Nat) (x0:(List Int)) (x1:(List Int)):Option A1s:=All.exact_compareWords.f k x0 x1
noncomputable abbrev V2 (k:Nat) (x0:Int):Option A6G:=All.bits_LeadingZeros64.f x0
noncomputable abbrev S0 (k:Nat) (x0:Int) (x1:Int) (x2:Int):Option f6:=All.bits_Div64.f k x0 x1 x2
noncomputable abbrev A0r (k:Nat) (x0:(List Int)) (x1:Int):Option A2U:=All.exact_shiftUp.f k x0 x1
noncomputable abbrev T3 (k:Nat) (x0:Int) (x1:Int):Option A5m:=All.bits_Mul64.f x0 x1
noncomputable abbrev A0O (k:Nat) (x1:(List Int)) (y0:(List Int)):Option X6:=All.exact_step.f k y0 x1
noncomputable abbrev A0T (k:Nat) (x0:(List Int)) (x1:(List Int)):Option V6:=All.exact_divide.f k x0 x1
noncomputable abbrev U4 (k:Nat) (x0:ByteArray) (x1:ByteArray):Option A0X:=All.exact_NatGcd.f k x0 x1
noncomputable abbrev N8 (k:Nat) (x0:TQ):Option B0t:=A2Y (t5 k) (X7 k) (U4 k) x0
noncomputable def A0U:Nat→TP→TP→Int→Int→Option A0y
 |0,_,_,_,_=>none
 |k+1,x0,x9,x10,x11=>A7v (A0U k) (J9 k) (N8 k) x0 x9 x10 x11
noncomputable abbrev A0B (k:Nat) (x0:TP):Option A0y:=B3S (A0U k) x0
noncomputable abbrev A7u (k:Nat) (x0:TQ):Option B1Z:=C3H x0
noncomputable abbrev A2m (k:Nat) (x0:TQ):Option B1C:=C1z (A7u k) x0
noncomputable def A0V:Nat→TP→Int→Int→Option A2A
 |0,_,_,_=>none
 |k+1,x0,x7,x8=>A7n (A0V k) (A2m k) x0 x7 x8
noncomputable abbrev A5i (k:Nat) (x0:TP):Option A2A:=B3V (A0V k) x0
noncomputable abbrev A4Y (k:Nat) (x0:TP):Option A9I:=C2h (A5i k) x0
noncomputable abbrev A3Z (k:Nat) (x0:TP):Option A9g:=B3A (E6 k) (A0B k) (A4Y k) x0
noncomputable abbrev V5 (k:Nat) (x0:TP) (x1:TP):Option A3f:=B2o (A0B k) x0 x1
noncomputable def A1E:Nat→TF→TF→Int→Int→TP→Option A2p
 |0,_,_,_,_,_=>none
 |k+1,x1,x11,x12,x13,x2=>A7b (A1E k) (V5 k) x1 x11 x12 x13 x2
noncomputable abbrev A2X (k:Nat) (x0:TP) (x1:TF):Option A2p:=B4w (A1E k) x0 x1
noncomputable def A0Y:Nat→(List TF)→Int→Int→TP→Option U3
 |0,_,_,_,_=>none
 |k+1,x14,x15,x16,x2=>A7C (A0Y k) (A2X k) x14 x15 x16 x2
noncomputable abbrev J8 (k:Nat) (x0:TP) (x1:(List TF)):Option U3:=B83 (A0Y k) (A3Z k) x0 x1
noncomputable abbrev A0z (k:Nat) (x0:(List Int)) (x1:(List Int)):Option Z1:=All.exact_mulWords.f k x0 x1
noncomputable abbrev T5 (k:Nat) (x0:ByteArray) (x1:ByteArray):Option A3P:=All.exact_NatMul.f k x0 x1
noncomputable abbrev L3 (k:Nat) (x0:Bool) (x1:ByteArray):Option n9:=All.exact_IntMake.f x0 x1
noncomputable abbrev A3D (k:Nat) (x0:TI) (x1:TI):Option A9m:=All.exact_IntMul.f k x0.1 x0.2 x1.1 x1.2
noncomputable abbrev A4X (k:Nat) (x0:ByteArray) (x1:ByteArray):Option A9X:=All.exact_NatDivMod.f k x0 x1
noncomputable abbrev f9 (k:Nat) (x0:TI) (x1:TI):Option A5n:=B3a (L3 k) (U4 k) (A4X k) x0 x1
noncomputable abbrev F8 (k:Nat) (x0:TQ) (x1:TQ):Option w8:=B2I (S5 k) (A3D k) (f9 k) (T5 k) x0 x1
noncomputable abbrev A1x (k:Nat) (x0:ByteArray) (x1:Int):Option A0q:=All.exact_NatPow.f k x0 x1
noncomputable abbrev A8j (k:Nat) (x0:TI) (x1:Int):Option B1A:=C4L (A1x k) (L3 k) x0 x1
noncomputable abbrev A6b (k:Nat) (x0:TQ) (x1:Int):Option A9U:=C1v (A8j k) (A1x k) x0 x1
noncomputable abbrev A6R (k:Nat) (x0:TI):Option B1T:=All.exact_IntNeg.f x0.1 x0.2
noncomputable abbrev t4 (k:Nat) (x0:TQ):Option A5l:=B7y (A6R k) x0
noncomputable abbrev A8y (k:Nat) (x0:ByteArray) (x1:ByteArray):Option A2c:=All.exact_NatAdd.f k x0 x1
noncomputable abbrev A8U (k:Nat) (x0:ByteArray) (x1:ByteArray):Option B0B:=All.exact_NatCmp.f k x0 x1
noncomputable abbrev A8N (k:Nat) (x0:ByteArray) (x1:ByteArray):Option A2E:=All.exact_NatSub.f k x0 x1
noncomputable abbrev A3E (k:Nat) (x0:TI) (x1:TI):Option B1k:=All.exact_IntAdd.f k x0.1 x0.2 x1.1 x1.2
noncomputable abbrev L2 (k:Nat) (x0:TQ) (x1:TQ):Option A3s:=B0T (S5 k) (f9 k) (T5 k) (A3E k) (L3 k) x0 x1
noncomputable abbrev N4 (k:Nat) (x0:TQ) (x1:TQ):Option R88:=B88 (t4 k) (L2 k) x0 x1
noncomputable def A0n:Nat→TP→Int→Option R7
 |0,_,_=>none
 |k+1,x0,x3=>A8V (A0n k) (J9 k) x0 x3
noncomputable abbrev E9 (k:Nat) (x0:TP):Option R7:=B92 (A0n k) x0
noncomputable abbrev P9 (k:Nat) (x0:TQ):Option A3x:=B6h x0
noncomputable abbrev C7E (k:Nat) (x0:TP):Option B5F:=C1p x0
noncomputable abbrev C8Z (k:Nat) (x0:TP):Option B5c:=A6C x0
mutual
noncomputable def t7:Nat→TP→TP→Int→Int→Int→TP→TP→Option R9
 |0,_,_,_,_,_,_,_=>none
 |k+1,x0,x1,x7,x30,x31,x6,x8=>A8d (t7 k) (T2 k) (E6 k) (P9 k) x0 x1 x7 x30 x31 x6 x8
noncomputable def T2:Nat→TP→Int→Int→TP→TP→TQ→Option R9
 |0,_,_,_,_,_,_=>none
 |k+1,x1,x7,x11,x6,x8,x10=>A8n (T2 k) (m6 k) (E9 k) (F8 k) (J9 k) x1 x7 x11 x6 x8 x10
noncomputable def m6:Nat→TP→Int→Int→Int→Int→TP→TP→TQ→TQ→Option R9
 |0,_,_,_,_,_,_,_,_,_=>none
 |k+1,x1,x7,x11,x69,x70,x6,x8,x10,x12=>A7y (T2 k) (m6 k) (N4 k) (F8 k) x1 x7 x11 x69 x70 x6 x8 x10 x12
end
noncomputable abbrev W8 (k:Nat) (x0:TP) (x1:TP):Option R9:=B4s (t7 k) (A3J k) x0 x1
noncomputable def A4j:Nat→TP→TP→TQ→TQ→Option R84
 |0,_,_,_,_=>none
 |k+1,x0,x1,x4,x5=>C7W (A4j k) (E6 k) (F8 k) (A6b k) (W8 k) (t4 k) x0 x1 x4 x5
noncomputable abbrev A2J (k:Nat) (x0:TP) (x1:TP):Option R84:=B84 (A4j k) (E6 k) x0 x1
noncomputable abbrev o5 (k:Nat) (x0:TP) (x1:Int):Option A5X:=B3X (E6 k) x0 x1
noncomputable def A1D:Nat→TP→TP→Int→Int→TP→Option g7
 |0,_,_,_,_,_=>none
 |k+1,x0,x1,x14,x15,x5=>A8i (A1D k) (E9 k) (L2 k) (o5 k) x0 x1 x14 x15 x5
noncomputable abbrev K0 (k:Nat) (x0:TP) (x1:TP):Option g7:=B90 (A1D k) x0 x1
mutual
noncomputable def o7:Nat→TP→TP→Int→Int→TP→Option P1
 |0,_,_,_,_,_=>none
 |k+1,x0,x1,x27,x28,x5=>A7G (o7 k) (T9 k) (E6 k) x0 x1 x27 x28 x5
noncomputable def T9:Nat→TP→TP→Int→Int→TP→Option P1
 |0,_,_,_,_,_=>none
 |k+1,x1,x36,x37,x38,x5=>A8a (T9 k) (k9 k) (E9 k) (J9 k) x1 x36 x37 x38 x5
noncomputable def k9:Nat→TP→Int→TP→Int→Int→TP→Int→Int→TP→TQ→Option P1
 |0,_,_,_,_,_,_,_,_,_,_=>none
 |k+1,x1,x7,x36,x37,x38,x45,x46,x47,x5,x8=>A8M (T9 k) (k9 k) (F8 k) (L2 k) x1 x7 x36 x37 x38 x45 x46 x47 x5 x8
end
noncomputable abbrev M2 (k:Nat) (x0:TP) (x1:TP):Option P1:=B91 (o7 k) x0 x1
noncomputable abbrev O1 (k:Nat) (x0:TP) (x1:TP):Option A3q:=B2t (W8 k) x0 x1
noncomputable abbrev Q8 (k:Nat) (x0:TP) (x1:TP) (x2:TP):Option A3Q:=B3M (M2 k) (O1 k) x0 x1 x2
noncomputable def A0Z:Nat→TF→TP→TP→Int→TP→Option R85
 |0,_,_,_,_,_=>none
 |k+1,x1,x2,x7,x8,x3=>A7B (A0Z k) (K0 k) (Q8 k) x1 x2 x7 x8 x3
noncomputable abbrev Y4 (k:Nat) (x0:TP) (x1:TF) (x2:TP):Option R85:=B85 (A0Z k) x0 x1 x2
noncomputable def A4c:Nat→(List Int)→Int→Int→TP→Option d7
 |0,_,_,_,_=>none
 |k+1,x9,x10,x11,x3=>C9i (A4c k) (E6 k) (E9 k) x9 x10 x11 x3
noncomputable abbrev M0 (k:Nat) (x0:(List Int)):Option d7:=B86 (A4c k) x0
noncomputable abbrev A2B (k:Nat) (x0:TQ) (x1:TQ):Option R87:=B87 (F8 k) (P9 k) x0 x1
noncomputable abbrev A2u (k:Nat) (x0:TQ):Option B0g:=B3B x0
noncomputable def A1B:Nat→TP→Int→Int→Option A2x
 |0,_,_,_=>none
 |k+1,x0,x7,x8=>A7h (A1B k) (A2u k) x0 x7 x8
noncomputable abbrev A5c (k:Nat) (x0:TP):Option A2x:=B4v (A1B k) x0
noncomputable abbrev A1a (k:Nat) (x0:TP):Option A6H:=C2B (A5c k) x0
noncomputable abbrev A1z (k:Nat) (x0:TP):Option R93:=B93 (A1a k) x0
mutual
noncomputable def A1j:Nat→TF→Int→Int→Int→TP→TP→Option R6
 |0,_,_,_,_,_,_=>none
 |k+1,x1,x7,x38,x39,x2,x8=>C3s (A1j k) (A1V k) (A2J k) (Y4 k) (M0 k) x1 x7 x38 x39 x2 x8
noncomputable def A1V:Nat→Int→Int→TP→Option R6
 |0,_,_,_=>none
 |k+1,x7,x10,x8=>C2O (A1b k) (A1S k) x7 x10 x8
noncomputable def A1b:Nat→Int→Int→Int→TP→Option R6
 |0,_,_,_,_=>none
 |k+1,x7,x10,x11,x8=>C5K (A1V k) (A1b k) (A2B k) (N4 k) (E6 k) x7 x10 x11 x8
noncomputable def A1S:Nat→TP→Int→TP→Option R6
 |0,_,_,_=>none
 |k+1,x12,x13,x8=>C7w (A1S k) (M0 k) (K0 k) (M2 k) (E9 k) (A1z k) x12 x13 x8
end
noncomputable abbrev A6x (k:Nat) (x0:TP) (x1:TF):Option R6:=B17 (A1j k) (J8 k) x0 x1
noncomputable def A1I:Nat→TP→TP→Int→Int→Option t6
 |0,_,_,_,_=>none
 |k+1,x0,x1,x12,x13=>A8W (A1I k) x0 x1 x12 x13
noncomputable abbrev W4 (k:Nat) (x0:TP) (x1:TP):Option t6:=B18 (A1I k) x0 x1
noncomputable abbrev A4d (k:Nat) (x0:TI):Option B0C:=All.galoisref02_Sign.f x0.1 x0.2
noncomputable abbrev R0 (k:Nat) (x0:TQ):Option A6e:=B4t (A4d k) x0
noncomputable def A0K:Nat→TP→Int→Option T8
 |0,_,_=>none
 |k+1,x0,x3=>A8r (A0K k) (R0 k) x0 x3
noncomputable abbrev G1 (k:Nat) (x0:TP):Option T8:=B48 (A0K k) x0
noncomputable abbrev I9 (k:Nat) (x0:(List Int)):Option R2:=All.galoisref01_pack.f k x0
noncomputable abbrev A7K (k:Nat) (x0:Int):Option B1Y:=All.galoisref01_Of.f k x0
noncomputable abbrev A6M (k:Nat) (x0:Int):Option A9Q:=All.galoisref02_FromInt.f k x0
noncomputable abbrev F4 (k:Nat) (x0:Int):Option Y1:=B81 (A6M k) x0
noncomputable def A5E:Nat→(List Int)→Int→Int→TP→Option R22
 |0,_,_,_,_=>none
 |k+1,x6,x7,x8,x3=>C8G (A5E k) (G1 k) (F4 k) x6 x7 x8 x3
noncomputable abbrev A8S (k:Nat) (x0:(List Int)):Option R22:=B22 (A5E k) x0
noncomputable def A4P:Nat→TP→Int→Int→TQ→TP→Option A1n
 |0,_,_,_,_,_=>none
 |k+1,x11,x12,x13,x3,x5=>C9N (A4P k) (E9 k) (F8 k) x11 x12 x13 x3 x5
noncomputable abbrev A6o (k:Nat) (x0:TP) (x1:TQ):Option A1n:=C5a (A4P k) x0 x1
noncomputable def A5I:Nat→TP→TP→Int→Int→TP→Option A0M
 |0,_,_,_,_,_=>none
 |k+1,x0,x1,x14,x15,x5=>C4z (A5I k) (N4 k) (E9 k) (o5 k) x0 x1 x14 x15 x5
noncomputable abbrev z7 (k:Nat) (x0:TP) (x1:TP):Option A0M:=C8v (A5I k) x0 x1
noncomputable def A4i:Nat→TP→TP→TP→TP→TP→Option A1K
 |0,_,_,_,_,_=>none
 |k+1,x0,x6,x7,x8,x9=>C1b (A4i k) (M2 k) (A6o k) (W8 k) (P9 k) (O1 k) (z7 k) x0 x6 x7 x8 x9
noncomputable abbrev A2T (k:Nat) (x0:TP) (x1:TP):Option A1K:=C9M (A4i k) (M0 k) (O1 k) x0 x1
noncomputable def A0L:Nat→TF→Int→Option W9
 |0,_,_=>none
 |k+1,x0,x3=>A8P (A0L k) x0 x3
noncomputable abbrev F7 (k:Nat) (x0:TF):Option W9:=B3O (A0L k) x0
mutual
noncomputable def A1Z:Nat→TF→TP→Int→Int→TP→TF→TF→Option d6
 |0,_,_,_,_,_,_,_=>none
 |k+1,x2,x3,x11,x13,x4,x10,x12=>C2V (A1Z k) (A3b k) (F7 k) (Q8 k) x2 x3 x11 x13 x4 x10 x12
noncomputable def A3b:Nat→TF→TP→Int→Int→TP→Int→Int→TP→TF→TF→Option d6
 |0,_,_,_,_,_,_,_,_,_,_=>none
 |k+1,x2,x3,x11,x13,x14,x60,x61,x4,x10,x12=>C9g (A1Z k) (A3b k) (Q8 k) (z7 k) x2 x3 x11 x13 x14 x60 x61 x4 x10 x12
end
noncomputable abbrev A1Y (k:Nat) (x0:TP) (x1:TF) (x2:TF) (x3:TP):Option d6:=C5V (A1Z k) (F7 k) x0 x1 x2 x3
noncomputable abbrev A0I (k:Nat) (x0:TP):Option B1g:=C7a (A1a k) x0
noncomputable def i6:Nat→TF→Int→Int→Option A2q
 |0,_,_,_=>none
 |k+1,x0,x7,x8=>A2j (i6 k) (A0I k) x0 x7 x8
noncomputable abbrev A5O (k:Nat) (x0:TF):Option A2q:=A9E (i6 k) x0
noncomputable abbrev A7X (k:Nat) (x0:TF):Option B2C:=C4g (A5O k) x0
noncomputable abbrev j5 (k:Nat) (x0:TF):Option A6O:=C1y (A7X k) x0
noncomputable abbrev R3 (k:Nat) (x0:TF):Option A1U:=B4n (j5 k) x0
noncomputable abbrev A8K (k:Nat) (x0:TP) (x1:TF) (x2:TF):Option R28:=B28 (J8 k) (A2T k) (A1Y k) (R3 k) x0 x1 x2
noncomputable def A0N:Nat→TF→TF→Int→Int→Option R29
 |0,_,_,_,_=>none
 |k+1,x0,x1,x12,x13=>A8F (A0N k) (W4 k) x0 x1 x12 x13
noncomputable abbrev z5 (k:Nat) (x0:TF) (x1:TF):Option R29:=B29 (A0N k) x0 x1
noncomputable def A5D:Nat→TP→TF→Int→Int→TP→TF→Option A2s
 |0,_,_,_,_,_,_=>none
 |k+1,x2,x13,x14,x15,x3,x7=>C6Y (A5D k) (F7 k) (Q8 k) x2 x13 x14 x15 x3 x7
noncomputable abbrev A7O (k:Nat) (x0:TP) (x1:TF) (x2:TP):Option A2s:=C0o (A5D k) x0 x1 x2
noncomputable abbrev A6i (k:Nat) (x0:TP) (x1:TF):Option A9l:=C3I (A2T k) (A7O k) x0 x1
noncomputable abbrev A8v (k:Nat) (x0:TF):Option A9f:=C0r x0
noncomputable abbrev A6F (k:Nat) (x0:(TF×Unit)):Option B0H:=C6O (R3 k) (A8v k) x0
noncomputable def A5U:Nat→TP→(TF×TF)→Option R31
 |0,_,_=>none
 |k+1,x3,x9=>C1e (A5U k) (M0 k) (A1Y k) (A6i k) (A6F k) x3 x9
noncomputable abbrev A8E (k:Nat) (x0:TP) (x1:TF) (x2:TF):Option R31:=B31 (A5U k) (J8 k) x0 x1 x2
noncomputable abbrev A2k (k:Nat) (x0:TF) (x1:Int):Option A9N:=B3N x0 x1
noncomputable def A0P:Nat→TF→TF→Int→Int→TF→Option A2r
 |0,_,_,_,_,_=>none
 |k+1,x0,x1,x14,x15,x5=>A7c (A0P k) (K0 k) (F7 k) (A2k k) x0 x1 x14 x15 x5
noncomputable abbrev A1h (k:Nat) (x0:TF) (x1:TF):Option A2r:=B4y (A0P k) x0 x1
mutual
noncomputable def t3:Nat→TF→TF→Int→Int→TP→TF→Option T6
 |0,_,_,_,_,_,_=>none
 |k+1,x2,x28,x29,x30,x3,x7=>A9F (o6 k) (i5 k) x2 x28 x29 x30 x3 x7
noncomputable def o6:Nat→TF→Int→TP→TF→Int→Int→TF→Int→Int→TP→TF→Option T6
 |0,_,_,_,_,_,_,_,_,_,_,_=>none
 |k+1,x2,x8,x9,x28,x29,x30,x35,x36,x37,x3,x7=>A7p (t3 k) (o6 k) (K0 k) (M2 k) x2 x8 x9 x28 x29 x30 x35 x36 x37 x3 x7
noncomputable def i5:Nat→Int→Int→TP→TF→Option T6
 |0,_,_,_,_=>none
 |k+1,x60,x61,x3,x7=>A7P (i5 k) (F7 k) (O1 k) x60 x61 x3 x7
end
noncomputable abbrev m5 (k:Nat) (x0:TP) (x1:TF) (x2:TF):Option T6:=B2Z (t3 k) x0 x1 x2
noncomputable def A0i:Nat→TF→TP→TF→TF→Int→Option A2R
 |0,_,_,_,_,_=>none
 |k+1,x1,x2,x4,x5,x6=>A8H (A0i k) (F7 k) (A1h k) (m5 k) x1 x2 x4 x5 x6
noncomputable abbrev A4D (k:Nat) (x0:TP) (x1:TF) (x2:TP):Option A2R:=B2W (A0i k) (M0 k) (F7 k) x0 x1 x2
noncomputable abbrev A4R (k:Nat) (x0:(TP×TF×TP×Unit)):Option B2L:=B4W (R3 k) (A4D k) x0
noncomputable abbrev A1C (k:Nat) (x0:TP) (x1:TF) (x2:TP):Option R50:=B50 (J8 k) (A4R k) (V5 k) x0 x1 x2
noncomputable abbrev A3G (k:Nat):Option R16:=B16 (A6x k) (W4 k) (A8S k) (A8K k) (z5 k) (A8E k) (A1C k)
noncomputable abbrev b6 (k:Nat) (x0:TI):Option A5r:=A4f x0
noncomputable abbrev l5 (k:Nat) (x0:Bool) (x1:ByteArray):Option A3H:=All.galoisref02_Make.f x0 x1
noncomputable abbrev K8 (k:Nat) (x0:ByteArray):Option U7:=All.galoisref01_limbs.f k x0
noncomputable abbrev A7k (k:Nat) (x0:ByteArray) (x1:ByteArray):Option A2w:=All.galoisref01_Add.f k x0 x1
noncomputable abbrev A0d (k:Nat) (x0:ByteArray) (x1:ByteArray):Option A6c:=All.galoisref01_Compare.f k x0 x1
noncomputable abbrev A7I (k:Nat) (x0:ByteArray) (x1:ByteArray):Option A1y:=All.galoisref01_Sub.f k x0 x1
noncomputable abbrev A3d (k:Nat) (x0:TI) (x1:TI):Option A9h:=All.galoisref02_Add.f k x0.1 x0.2 x1.1 x1.2
noncomputable abbrev A7r (k:Nat) (x0:ByteArray) (x1:ByteArray):Option q7:=All.galoisref01_Mul.f k x0 x1
noncomputable abbrev e9 (k:Nat) (x0:TI) (x1:TI):Option A6Y:=All.galoisref02_Mul.f k x0.1 x0.2 x1.1 x1.2
noncomputable abbrev d5 (k:Nat) (x0:TQ):Option A5e:=A5N x0
noncomputable abbrev A0E (k:Nat) (x0:ByteArray) (x1:ByteArray):Option U5:=All.galoisref01_DivMod.f k x0 x1
noncomputable abbrev Y3 (k:Nat) (x0:ByteArray) (x1:ByteArray):Option A0w:=All.galoisref01_Gcd.f k x0 x1
noncomputable abbrev v4 (k:Nat) (x0:TI) (x1:TI):Option A6A:=B9R (Y3 k) (l5 k) (A0E k) x0 x1
noncomputable abbrev P3 (k:Nat) (x0:TQ) (x1:TQ):Option A6E:=B0L (b6 k) (A3d k) (e9 k) (d5 k) (v4 k) x0 x1
noncomputable abbrev A2V (k:Nat) (x0:TP) (x1:Int):Option B0a:=B3D (F4 k) x0 x1
noncomputable def A1A:Nat→TP→TP→Int→TP→Option Z6
 |0,_,_,_,_=>none
 |k+1,x0,x1,x6,x5=>A7Y (A1A k) (G1 k) (P3 k) (A2V k) x0 x1 x6 x5
noncomputable abbrev M8 (k:Nat) (x0:TP) (x1:TP):Option Z6:=B20 (A1A k) x0 x1
noncomputable abbrev S7 (k:Nat) (x0:TP):Option R15:=B15 x0
noncomputable abbrev Z9 (k:Nat) (x0:ByteArray):Option A5Z:=All.galoisref01_Valid.f x0
noncomputable abbrev A0S (k:Nat) (x0:TI):Option B1s:=All.galoisref02_Valid.f x0.1 x0.2
noncomputable abbrev z9 (k:Nat) (x0:ByteArray):Option A6a:=All.galoisref01_Fits.f x0
noncomputable abbrev A3l (k:Nat) (x0:TI):Option B0k:=All.galoisref02_Fits.f x0.1 x0.2
noncomputable abbrev Z2 (k:Nat) (x0:TQ):Option B1G:=B0h (A3l k) (z9 k) x0
noncomputable abbrev R5 (k:Nat) (x0:TQ):Option B1B:=A4u (A0S k) (Z9 k) (Z2 k) (Y3 k) x0
noncomputable def A0p:Nat→TP→TP→Int→Int→Option s9
 |0,_,_,_,_=>none
 |k+1,x0,x9,x10,x11=>A9C (A0p k) (R0 k) (R5 k) x0 x9 x10 x11
noncomputable abbrev V3 (k:Nat) (x0:TP):Option s9:=B69 (A0p k) x0
noncomputable abbrev Y6 (k:Nat) (x0:TP):Option R80:=B80 (F4 k) x0
noncomputable abbrev A2n (k:Nat) (x0:TQ):Option R82:=B82 x0
noncomputable def A1M:Nat→TP→Int→Int→TP→Option Z8
 |0,_,_,_,_=>none
 |k+1,x24,x25,x26,x1=>A7L (A1M k) (S7 k) (A2n k) x24 x25 x26 x1
end Go.Proofs.YtijohnkgomcdbaaGreatV
