/- Part of the proof of the statement FieldpolyChecks: lemmas on the model's steps, Lean functions that say what the program's functions compute, and proofs that the calls do just that. No hypothesis is added. -/
import Derived.Test.YtijohnkgomcdbaaGreatKFieldpolyChecks3
set_option linter.all false
set_option maxRecDepth 100000
namespace Go.Proofs.YtijohnkgomcdbaaGreatV
open Go Go.RowKit YtijohnkgomcdbaaGreatE YtijohnkgomcdbaaGreatW.PrintWords YtijohnkgomcdbaaGreatW.PrintLast YtijohnkgomcdbaaGreatW.PrintMore
noncomputable def B3i:FD:=⟨146,Tryz.f146,12,⟨[],[],[]⟩,⟨[(0, .d (.li (.ag (.pr (.ag (.pr .bo .st)) .st)))),(1, .d (.li (.ag (.pr (.ag (.pr .bo .st)) .st)))),(2, .d (.li (.ag (.pr (.ag (.pr .bo .st)) .st))))],[]⟩,⟨[(0, .d (.li (.ag (.pr (.ag (.pr .bo .st)) .st))))],[]⟩,[.d (.li (.ag (.pr (.ag (.pr .bo .st)) .st)))],A2z,fun o=>((o,()),()),fun s=>s.1.1⟩
noncomputable def B6v (F:(List TQ)→(List TQ)→(List TQ)→Option A2z):FE:=B3i.fe fun s=>F s.1.1 s.1.2.1 s.1.2.2.1
abbrev A2o:Type:=TQ
noncomputable def B5q:FD:=⟨147,Tryz.f147,13,⟨[],[],[]⟩,⟨[(0, .d (.ag (.pr (.ag (.pr .bo .st)) .st)))],[]⟩,⟨[(0, .d (.ag (.pr (.ag (.pr .bo .st)) .st)))],[]⟩,[.d (.ag (.pr (.ag (.pr .bo .st)) .st))],A2o,fun o=>(((o.1,o.2),()),()),fun s=>(s.1.1.1,s.1.1.2)⟩
noncomputable def B4S (F:TQ→Option A2o):FE:=B5q.fe fun s=>F s.1.1
abbrev A3I:Type:=TQ
noncomputable def B5u:FD:=⟨148,Tryz.f148,58,⟨[],[],[]⟩,⟨[(0, .d (.ag (.pr (.ag (.pr .bo .st)) .st))),(1, .d (.ag (.pr (.ag (.pr .bo .st)) .st)))],[]⟩,⟨[(0, .d (.ag (.pr (.ag (.pr .bo .st)) .st)))],[]⟩,[.d (.ag (.pr (.ag (.pr .bo .st)) .st))],A3I,fun o=>(((o.1,o.2),()),()),fun s=>(s.1.1.1,s.1.1.2)⟩
noncomputable def B7l (F:TQ→TQ→Option A3I):FE:=B5u.fe fun s=>F s.1.1 s.1.2.1
abbrev A2n:Type:=TQ
noncomputable def B4Q:FD:=⟨149,Tryz.f149,5,⟨[],[],[]⟩,⟨[(0, .d (.ag (.pr .bo .st)))],[]⟩,⟨[(0, .d (.ag (.pr (.ag (.pr .bo .st)) .st)))],[]⟩,[.d (.ag (.pr (.ag (.pr .bo .st)) .st))],A2n,fun o=>(((o.1,o.2),()),()),fun s=>(s.1.1.1,s.1.1.2)⟩
noncomputable def B5P (F:TI→Option A2n):FE:=B4Q.fe fun s=>F s.1.1
abbrev B0J:Type:=TI
noncomputable def B4T:FD:=⟨150,Tryz.f150,14,⟨[],[],[]⟩,⟨[(0, .d (.it .i64))],[]⟩,⟨[(0, .d (.ag (.pr .bo .st)))],[]⟩,[.d (.ag (.pr .bo .st))],B0J,fun o=>(((o.1,o.2),()),()),fun s=>(s.1.1.1,s.1.1.2)⟩
noncomputable def D2L (F:Int→Option B0J):FE:=B4T.fe fun s=>F s.1.1
abbrev A4n:Type:=TQ
noncomputable def B4w:FD:=⟨151,Tryz.f151,18,⟨[],[],[]⟩,⟨[(0, .d (.li (.ag (.pr (.ag (.pr .bo .st)) .st)))),(1, .d (.it .i64))],[]⟩,⟨[(0, .d (.ag (.pr (.ag (.pr .bo .st)) .st)))],[]⟩,[.d (.ag (.pr (.ag (.pr .bo .st)) .st))],A4n,fun o=>(((o.1,o.2),()),()),fun s=>(s.1.1.1,s.1.1.2)⟩
noncomputable def B8k (F:(List TQ)→Int→Option A4n):FE:=B4w.fe fun s=>F s.1.1 s.1.2.1
abbrev A0W:Type:=Bool
noncomputable def B6F:FD:=⟨152,Tryz.f152,7,⟨[],[],[]⟩,⟨[(0, .d (.ag (.pr (.ag (.pr .bo .st)) .st)))],[]⟩,⟨[(0, .d .bo)],[]⟩,[.d .bo],A0W,fun o=>((o,()),()),fun s=>s.1.1⟩
noncomputable def B2e (F:TQ→Option A0W):FE:=B6F.fe fun s=>F s.1.1
abbrev A8E:Type:=Bool
noncomputable def B3j:FD:=⟨153,Tryz.f153,9,⟨[],[],[]⟩,⟨[(0, .d (.li (.ag (.pr (.ag (.pr .bo .st)) .st)))),(1, .f (.cl 170 []))],[]⟩,⟨[(0, .d .bo)],[]⟩,[.d .bo],A8E,fun o=>((o,()),()),fun s=>s.1.1⟩
noncomputable def D0u (F:(List TQ)→Option A8E):FE:=B3j.fe fun s=>F s.1.1
abbrev A5B:Type:=Bool
noncomputable def B4P:FD:=⟨153,Tryz.f153,9,⟨[],[],[]⟩,⟨[(0, .d (.li (.ag (.pr (.ag (.pr .bo .st)) .st)))),(1, .f (.cl 154 []))],[]⟩,⟨[(0, .d .bo)],[]⟩,[.d .bo],A5B,fun o=>((o,()),()),fun s=>s.1.1⟩
noncomputable def C5q (F:(List TQ)→Option A5B):FE:=B4P.fe fun s=>F s.1.1
abbrev B0P:Type:=Bool
noncomputable def B7R:FD:=⟨154,Tryz.f154,14,⟨[],[],[]⟩,⟨[(0, .d (.ag (.pr (.ag (.pr .bo .st)) .st)))],[]⟩,⟨[(0, .d .bo)],[]⟩,[.d .bo],B0P,fun o=>((o,()),()),fun s=>s.1.1⟩
noncomputable def C8z (F:TQ→Option B0P):FE:=B7R.fe fun s=>F s.1.1
abbrev A7u:Type:=TQ
noncomputable def B6M:FD:=⟨159,Tryz.f159,5,⟨[],[],[]⟩,⟨[(0, .d (.ag (.pr .bo .st)))],[]⟩,⟨[(0, .d (.ag (.pr (.ag (.pr .bo .st)) .st)))],[]⟩,[.d (.ag (.pr (.ag (.pr .bo .st)) .st))],A7u,fun o=>(((o.1,o.2),()),()),fun s=>(s.1.1.1,s.1.1.2)⟩
noncomputable def D1p (F:TI→Option A7u):FE:=B6M.fe fun s=>F s.1.1
abbrev A5H:Type:=TI
noncomputable def B3b:FD:=⟨161,Tryz.f161,16,⟨[],[],[]⟩,⟨[(0, .d (.ag (.pr .bo .st))),(1, .d (.ag (.pr .bo .st)))],[]⟩,⟨[(0, .d (.ag (.pr .bo .st)))],[]⟩,[.d (.ag (.pr .bo .st))],A5H,fun o=>(((o.1,o.2),()),()),fun s=>(s.1.1.1,s.1.1.2)⟩
noncomputable def C3H (F:TI→TI→Option A5H):FE:=B3b.fe fun s=>F s.1.1 s.1.2.1
abbrev A5M:Type:=TI
noncomputable def B4E:FD:=⟨162,Tryz.f162,6,⟨[],[],[]⟩,⟨[(0, .d (.ag (.pr (.ag (.pr .bo .st)) .st)))],[]⟩,⟨[(0, .d (.ag (.pr .bo .st)))],[]⟩,[.d (.ag (.pr .bo .st))],A5M,fun o=>(((o.1,o.2),()),()),fun s=>(s.1.1.1,s.1.1.2)⟩
noncomputable def C5R (F:TQ→Option A5M):FE:=B4E.fe fun s=>F s.1.1
abbrev A7o:Type:=TQ
noncomputable def B6W:FD:=⟨163,Tryz.f163,42,⟨[],[],[]⟩,⟨[(0, .d (.ag (.pr .bo .st))),(1, .d (.ag (.pr .bo .st)))],[]⟩,⟨[(0, .d (.ag (.pr (.ag (.pr .bo .st)) .st)))],[]⟩,[.d (.ag (.pr (.ag (.pr .bo .st)) .st))],A7o,fun o=>(((o.1,o.2),()),()),fun s=>(s.1.1.1,s.1.1.2)⟩
noncomputable def D0i (F:TI→TI→Option A7o):FE:=B6W.fe fun s=>F s.1.1 s.1.2.1
abbrev A2s:Type:=(List TQ)
noncomputable def B8B:FD:=⟨165,Tryz.f165,14,⟨[],[],[]⟩,⟨[(0, .d (.li (.ag (.pr (.ag (.pr .bo .st)) .st)))),(1, .d (.li (.ag (.pr (.ag (.pr .bo .st)) .st))))],[]⟩,⟨[(0, .d (.li (.ag (.pr (.ag (.pr .bo .st)) .st))))],[]⟩,[.d (.li (.ag (.pr (.ag (.pr .bo .st)) .st)))],A2s,fun o=>((o,()),()),fun s=>s.1.1⟩
noncomputable def B8M (F:(List TQ)→(List TQ)→Option A2s):FE:=B8B.fe fun s=>F s.1.1 s.1.2.1
abbrev o4:Type:=(List TQ)
noncomputable def A9y:FD:=⟨166,Tryz.f166,31,⟨[(3,[(0, .any),(1, .any),(5, .any),(14, .any),(15, .any)])],[],[]⟩,⟨[(0, .d (.li (.ag (.pr (.ag (.pr .bo .st)) .st)))),(1, .d (.li (.ag (.pr (.ag (.pr .bo .st)) .st))))],[]⟩,⟨[(0, .d (.li (.ag (.pr (.ag (.pr .bo .st)) .st))))],[]⟩,[.d (.li (.ag (.pr (.ag (.pr .bo .st)) .st)))],o4,fun o=>((o,()),()),fun s=>s.1.1⟩
noncomputable def C0h (F:(List TQ)→(List TQ)→Option o4):FE:=A9y.fe fun s=>F s.1.1 s.1.2.1
abbrev B0e:Type:=Bool
noncomputable def B3u:FD:=⟨170,Tryz.f170,6,⟨[],[],[]⟩,⟨[(0, .d (.ag (.pr (.ag (.pr .bo .st)) .st)))],[]⟩,⟨[(0, .d .bo)],[]⟩,[.d .bo],B0e,fun o=>((o,()),()),fun s=>s.1.1⟩
noncomputable def D5S (F:TQ→Option B0e):FE:=B3u.fe fun s=>F s.1.1
abbrev A8d:Type:=Bool
noncomputable def B4O:FD:=⟨171,Tryz.f171,6,⟨[],[],[]⟩,⟨[(0, .d (.ag (.pr (.ag (.pr .bo .st)) .st)))],[]⟩,⟨[(0, .d .bo)],[]⟩,[.d .bo],A8d,fun o=>((o,()),()),fun s=>s.1.1⟩
noncomputable def D1Q (F:TQ→Option A8d):FE:=B4O.fe fun s=>F s.1.1
abbrev B0Q:Type:=Int
noncomputable def B5s:FD:=⟨172,Tryz.f172,44,⟨[],[],[]⟩,⟨[(0, .d (.ag (.pr (.ag (.pr .bo .st)) .st)))],[]⟩,⟨[(0, .d (.it .i64))],[]⟩,[.d (.it .i64)],B0Q,fun o=>((o,()),()),fun s=>s.1.1⟩
noncomputable def D5D (F:TQ→Option B0Q):FE:=B5s.fe fun s=>F s.1.1
abbrev A5g:Type:=Int
noncomputable def B4f:FD:=⟨173,Tryz.f173,10,⟨[],[],[]⟩,⟨[(0, .d (.ag (.pr .bo .st)))],[]⟩,⟨[(0, .d (.it .i64))],[]⟩,[.d (.it .i64)],A5g,fun o=>((o,()),()),fun s=>s.1.1⟩
noncomputable def C7y (F:TI→Option A5g):FE:=B4f.fe fun s=>F s.1.1
abbrev A8Y:Type:=(List TQ)
noncomputable def B7U:FD:=⟨174,Tryz.f174,13,⟨[],[],[]⟩,⟨[(0, .d (.li (.li (.ag (.pr (.ag (.pr .bo .st)) .st))))),(1, .d (.it .i64))],[]⟩,⟨[(0, .d (.li (.ag (.pr (.ag (.pr .bo .st)) .st))))],[]⟩,[.d (.li (.ag (.pr (.ag (.pr .bo .st)) .st)))],A8Y,fun o=>((o,()),()),fun s=>s.1.1⟩
noncomputable def D1x (F:(List (List TQ))→Int→Option A8Y):FE:=B7U.fe fun s=>F s.1.1 s.1.2.1
abbrev A8P:Type:=Bool
noncomputable def B5l:FD:=⟨175,Tryz.f175,9,⟨[],[],[]⟩,⟨[(0, .d (.li (.li (.ag (.pr (.ag (.pr .bo .st)) .st))))),(1, .f (.cl 176 []))],[]⟩,⟨[(0, .d .bo)],[]⟩,[.d .bo],A8P,fun o=>((o,()),()),fun s=>s.1.1⟩
noncomputable def D4E (F:(List (List TQ))→Option A8P):FE:=B5l.fe fun s=>F s.1.1
abbrev A7x:Type:=Bool
noncomputable def B4z:FD:=⟨176,Tryz.f176,5,⟨[],[],[]⟩,⟨[(0, .d (.li (.ag (.pr (.ag (.pr .bo .st)) .st))))],[]⟩,⟨[(0, .d .bo)],[]⟩,[.d .bo],A7x,fun o=>((o,()),()),fun s=>s.1.1⟩
noncomputable def D4K (F:(List TQ)→Option A7x):FE:=B4z.fe fun s=>F s.1.1
abbrev A8p:Type:=Bool
noncomputable def B4i:FD:=⟨177,Tryz.f177,16,⟨[],[],[]⟩,⟨[(0, .d (.ag (.pr .bo .st)))],[]⟩,⟨[(0, .d .bo)],[]⟩,[.d .bo],A8p,fun o=>((o,()),()),fun s=>s.1.1⟩
noncomputable def C8e (F:TI→Option A8p):FE:=B4i.fe fun s=>F s.1.1
abbrev A5G:Type:=Bool
noncomputable def B8E:FD:=⟨178,Tryz.f178,10,⟨[],[],[]⟩,⟨[(0, .d .st)],[]⟩,⟨[(0, .d .bo)],[]⟩,[.d .bo],A5G,fun o=>((o,()),()),fun s=>s.1.1⟩
noncomputable def C1x (F:ByteArray→Option A5G):FE:=B8E.fe fun s=>F s.1.1
abbrev B0H:Type:=Int
noncomputable def B4c:FD:=⟨179,Tryz.f179,10,⟨[],[],[]⟩,⟨[(0, .d (.ag (.pr (.ag (.pr .bo .st)) .st)))],[]⟩,⟨[(0, .d (.it .i64))],[]⟩,[.d (.it .i64)],B0H,fun o=>((o,()),()),fun s=>s.1.1⟩
noncomputable def D5H (F:TQ→Option B0H):FE:=B4c.fe fun s=>F s.1.1
abbrev m6:Type:=ByteArray
noncomputable def A9A:FD:=⟨180,Tryz.f180,18,⟨[(1,[(0, .any),(1, .any)])],[],[]⟩,⟨[(0, .d .st),(1, .d .st)],[]⟩,⟨[(0, .d .st)],[]⟩,[.d .st],m6,fun o=>((o,()),()),fun s=>s.1.1⟩
noncomputable def C0D (F:ByteArray→ByteArray→Option m6):FE:=A9A.fe fun s=>F s.1.1 s.1.2.1
abbrev A8m:Type:=Int
noncomputable def B7k:FD:=⟨181,Tryz.f181,36,⟨[],[],[]⟩,⟨[(0, .d (.ag (.pr (.ag (.pr .bo .st)) .st))),(1, .d (.ag (.pr (.ag (.pr .bo .st)) .st)))],[]⟩,⟨[(0, .d (.it .i64))],[]⟩,[.d (.it .i64)],A8m,fun o=>((o,()),()),fun s=>s.1.1⟩
noncomputable def D1N (F:TQ→TQ→Option A8m):FE:=B7k.fe fun s=>F s.1.1 s.1.2.1
abbrev A9N:Type:=Int
noncomputable def B6f:FD:=⟨182,Tryz.f182,16,⟨[],[],[]⟩,⟨[(0, .d (.ag (.pr (.ag (.pr .bo .st)) .st))),(1, .d (.ag (.pr (.ag (.pr .bo .st)) .st)))],[]⟩,⟨[(0, .d (.it .i64))],[]⟩,[.d (.it .i64)],A9N,fun o=>((o,()),()),fun s=>s.1.1⟩
noncomputable def D5F (F:TQ→TQ→Option A9N):FE:=B6f.fe fun s=>F s.1.1 s.1.2.1
abbrev A9g:Type:=ByteArray
noncomputable def B6B:FD:=⟨183,Tryz.f183,9,⟨[],[],[]⟩,⟨[(0, .d (.it .u64))],[]⟩,⟨[(0, .d .st)],[]⟩,[.d .st],A9g,fun o=>((o,()),()),fun s=>s.1.1⟩
noncomputable def D0h (F:Int→Option A9g):FE:=B6B.fe fun s=>F s.1.1
abbrev A8z:Type:=TI
noncomputable def B8L:FD:=⟨184,Tryz.f184,16,⟨[],[],[]⟩,⟨[(0, .d (.ag (.pr .bo .st))),(1, .d (.ag (.pr .bo .st)))],[]⟩,⟨[(0, .d (.ag (.pr .bo .st)))],[]⟩,[.d (.ag (.pr .bo .st))],A8z,fun o=>(((o.1,o.2),()),()),fun s=>(s.1.1.1,s.1.1.2)⟩
noncomputable def D0m (F:TI→TI→Option A8z):FE:=B8L.fe fun s=>F s.1.1 s.1.2.1
abbrev A4r:Type:=TQ
noncomputable def B5T:FD:=⟨185,Tryz.f185,40,⟨[],[],[]⟩,⟨[(0, .d (.ag (.pr .bo .st))),(1, .d (.ag (.pr .bo .st)))],[]⟩,⟨[(0, .d (.ag (.pr (.ag (.pr .bo .st)) .st)))],[]⟩,[.d (.ag (.pr (.ag (.pr .bo .st)) .st))],A4r,fun o=>(((o.1,o.2),()),()),fun s=>(s.1.1.1,s.1.1.2)⟩
noncomputable def C4n (F:TI→TI→Option A4r):FE:=B5T.fe fun s=>F s.1.1 s.1.2.1
abbrev A0g:Type:=ByteArray
noncomputable def B3k:FD:=⟨186,Tryz.f186,11,⟨[],[],[]⟩,⟨[(0, .d .st),(1, .d .st)],[]⟩,⟨[(0, .d .st)],[]⟩,[.d .st],A0g,fun o=>((o,()),()),fun s=>s.1.1⟩
noncomputable def B1c (F:ByteArray→ByteArray→Option A0g):FE:=B3k.fe fun s=>F s.1.1 s.1.2.1
abbrev B1B:Type:=TI
noncomputable def B5B:FD:=⟨187,Tryz.f187,17,⟨[],[],[]⟩,⟨[(0, .d (.ag (.pr .bo .st))),(1, .d (.it .i64))],[]⟩,⟨[(0, .d (.ag (.pr .bo .st)))],[]⟩,[.d (.ag (.pr .bo .st))],B1B,fun o=>(((o.1,o.2),()),()),fun s=>(s.1.1.1,s.1.1.2)⟩
noncomputable def D0y (F:TI→Int→Option B1B):FE:=B5B.fe fun s=>F s.1.1 s.1.2.1
abbrev l5:Type:=ByteArray
noncomputable def B0c:FD:=⟨188,Tryz.f188,25,⟨[(2,[(1, .any),(5, .val (.li (.it .u64))),(6, .val (.li (.it .u64)))])],[],[]⟩,⟨[(0, .d .st),(1, .d (.it .i64))],[]⟩,⟨[(0, .d .st)],[]⟩,[.d .st],l5,fun o=>((o,()),()),fun s=>s.1.1⟩
noncomputable def B9I (F:ByteArray→Int→Option l5):FE:=B0c.fe fun s=>F s.1.1 s.1.2.1
abbrev B1n:Type:=(List TQ)
noncomputable def E7c:FD:=⟨189,Tryz.f189,0,⟨[],[],[]⟩,⟨[(0, .d (.li (.ag (.pr (.ag (.pr .bo .st)) .st))))],[]⟩,⟨[(0, .f (.a (.ref 3000)))],[(3000, .own (.ag (.pr (.ag (.pr .bo .st)) .st)) true)]⟩,[],B1n,fun o=>((),(o,())),fun s=>s.2.1⟩
noncomputable def D6B (F:(List TQ)→Option B1n):FE:=E7c.fe fun s=>F s.1.1
abbrev B6l:Type:=(List TQ)
noncomputable def B5Y:FD:=⟨189,Tryz.f189,8,⟨[],[],[]⟩,⟨[(0, .nv false (.ag (.pr (.ag (.pr .bo .st)) .st)))],[]⟩,⟨[(0, .f (.a (.ref 3000)))],[(3000, .own (.ag (.pr (.ag (.pr .bo .st)) .st)) true)]⟩,[.own (.ag (.pr (.ag (.pr .bo .st)) .st))],B6l,fun o=>((),(o,())),fun s=>s.2.1⟩
noncomputable def F0b (F:(List TQ)→Option B6l):FE:=B5Y.fe fun s=>F s.1.1
abbrev B6c:Type:=(List TQ)
noncomputable def B5U:FD:=⟨189,Tryz.f189,8,⟨[],[],[]⟩,⟨[(0, .nv true (.ag (.pr (.ag (.pr .bo .st)) .st)))],[]⟩,⟨[(0, .f (.a (.ref 3000)))],[(3000, .own (.ag (.pr (.ag (.pr .bo .st)) .st)) true)]⟩,[.own (.ag (.pr (.ag (.pr .bo .st)) .st))],B6c,fun o=>((),(o,())),fun s=>s.2.1⟩
noncomputable def E4g (F:(List TQ)→Option B6c):FE:=B5U.fe fun s=>F s.1.1
abbrev A9U:Type:=TI
noncomputable def B3c:FD:=⟨190,Tryz.f190,9,⟨[],[],[]⟩,⟨[(0, .d (.ag (.pr .bo .st)))],[]⟩,⟨[(0, .d (.ag (.pr .bo .st)))],[]⟩,[.d (.ag (.pr .bo .st))],A9U,fun o=>(((o.1,o.2),()),()),fun s=>(s.1.1.1,s.1.1.2)⟩
noncomputable def D2V (F:TI→Option A9U):FE:=B3c.fe fun s=>F s.1.1
abbrev A8S:Type:=TI
noncomputable def B7c:FD:=⟨191,Tryz.f191,42,⟨[],[],[]⟩,⟨[(0, .d (.ag (.pr .bo .st))),(1, .d (.ag (.pr .bo .st)))],[]⟩,⟨[(0, .d (.ag (.pr .bo .st)))],[]⟩,[.d (.ag (.pr .bo .st))],A8S,fun o=>(((o.1,o.2),()),()),fun s=>(s.1.1.1,s.1.1.2)⟩
noncomputable def C9E (F:TI→TI→Option A8S):FE:=B7c.fe fun s=>F s.1.1 s.1.2.1
abbrev V3:Type:=TI
noncomputable def B6H:FD:=⟨192,Tryz.f192,12,⟨[],[],[]⟩,⟨[(0, .d .bo),(1, .d .st)],[]⟩,⟨[(0, .d (.ag (.pr .bo .st)))],[]⟩,[.d (.ag (.pr .bo .st))],V3,fun o=>(((o.1,o.2),()),()),fun s=>(s.1.1.1,s.1.1.2)⟩
noncomputable def A5N (F:Bool→ByteArray→Option V3):FE:=B6H.fe fun s=>F s.1.1 s.1.2.1
abbrev A8O:Type:=ByteArray
noncomputable def B5d:FD:=⟨193,Tryz.f193,6,⟨[],[],[]⟩,⟨[(0, .d (.it .u64))],[]⟩,⟨[(0, .d .st)],[]⟩,[.d .st],A8O,fun o=>((o,()),()),fun s=>s.1.1⟩
noncomputable def D0r (F:Int→Option A8O):FE:=B5d.fe fun s=>F s.1.1
abbrev A2E:Type:=Int
noncomputable def A9V:FD:=⟨194,Tryz.f194,19,⟨[(2,[(0, .any),(1, .any),(7, .any),(8, .any)])],[],[]⟩,⟨[(0, .d (.li (.ag (.pr (.ag (.pr .bo .st)) .st)))),(1, .f (.cl 170 []))],[]⟩,⟨[(0, .d (.it .i64))],[]⟩,[.d (.it .i64)],A2E,fun o=>((o,()),()),fun s=>s.1.1⟩
noncomputable def C9o (F:(List TQ)→Option A2E):FE:=A9V.fe fun s=>F s.1.1
abbrev A1I:Type:=Int
noncomputable def A8c:FD:=⟨194,Tryz.f194,19,⟨[(2,[(0, .any),(1, .any),(7, .any),(8, .any)])],[],[]⟩,⟨[(0, .d (.li (.ag (.pr (.ag (.pr .bo .st)) .st)))),(1, .f (.cl 154 []))],[]⟩,⟨[(0, .d (.it .i64))],[]⟩,[.d (.it .i64)],A1I,fun o=>((o,()),()),fun s=>s.1.1⟩
noncomputable def D1J (F:(List TQ)→Option A1I):FE:=A8c.fe fun s=>F s.1.1
abbrev A5J:Type:=TI
noncomputable def B6h:FD:=⟨198,Tryz.f198,12,⟨[],[],[]⟩,⟨[(0, .d .bo),(1, .d .st)],[]⟩,⟨[(0, .d (.ag (.pr .bo .st)))],[]⟩,[.d (.ag (.pr .bo .st))],A5J,fun o=>(((o.1,o.2),()),()),fun s=>(s.1.1.1,s.1.1.2)⟩
noncomputable def C7L (F:Bool→ByteArray→Option A5J):FE:=B6h.fe fun s=>F s.1.1 s.1.2.1
abbrev A8b:Type:=Int
noncomputable def B4H:FD:=⟨200,Tryz.f200,27,⟨[],[],[]⟩,⟨[(0, .d .st),(1, .d .st)],[]⟩,⟨[(0, .d (.it .i64))],[]⟩,[.d (.it .i64)],A8b,fun o=>((o,()),()),fun s=>s.1.1⟩
noncomputable def D2v (F:ByteArray→ByteArray→Option A8b):FE:=B4H.fe fun s=>F s.1.1 s.1.2.1
abbrev f8:Type:=ByteArray
noncomputable def A4d:FD:=⟨202,Tryz.f202,70,⟨[(4,[(5, .any),(6, .any),(7, .any),(8, .any)]),(8,[(5, .any),(6, .any),(7, .any),(8, .any),(9, .any),(10, .any)])],[],[]⟩,⟨[(0, .d .st),(1, .d .st)],[]⟩,⟨[(0, .d .st)],[]⟩,[.d .st],f8,fun o=>((o,()),()),fun s=>s.1.1⟩
noncomputable def D0B (F:ByteArray→ByteArray→Option f8):FE:=A4d.fe fun s=>F s.1.1 s.1.2.1
abbrev Q5:Type:=(ByteArray×ByteArray)
noncomputable def A2m:FD:=⟨203,Tryz.f203,148,⟨[(8,[(7, .val (.li (.it .u64))),(8, .any),(9, .any),(10, .any),(11, .any)]),(10,[(7, .any),(8, .any),(9, .any),(10, .any),(11, .any)]),(15,[(7, .val (.li (.it .u64))),(8, .any),(9, .any),(10, .any),(11, .any),(12, .any),(13, .any),(14, .any)])],[],[]⟩,⟨[(0, .d .st),(1, .d .st)],[]⟩,⟨[(0, .d .st),(1, .d .st)],[]⟩,[.d .st, .d .st],Q5,fun o=>((o.1,o.2,()),()),fun s=>(s.1.1,s.1.2.1)⟩
noncomputable def C1p (F:ByteArray→ByteArray→Option Q5):FE:=A2m.fe fun s=>F s.1.1 s.1.2.1
abbrev B0D:Type:=Int
noncomputable def B3v:FD:=⟨213,Tryz.f213,21,⟨[],[],[]⟩,⟨[(0, .d (.ag (.pr .bo .st)))],[]⟩,⟨[(0, .d (.it .i64))],[]⟩,[.d (.it .i64)],B0D,fun o=>((o,()),()),fun s=>s.1.1⟩
noncomputable def C9X (F:TI→Option B0D):FE:=B3v.fe fun s=>F s.1.1
abbrev A4j:Type:=Int
noncomputable def B5v:FD:=⟨214,Tryz.f214,14,⟨[],[],[]⟩,⟨[(0, .d .st)],[]⟩,⟨[(0, .d (.it .i64))],[]⟩,[.d (.it .i64)],A4j,fun o=>((o,()),()),fun s=>s.1.1⟩
noncomputable def C1J (F:ByteArray→Option A4j):FE:=B5v.fe fun s=>F s.1.1
abbrev u9:Type:=ByteArray
noncomputable def A8T:FD:=⟨215,Tryz.f215,26,⟨[(2,[(5, .val (.li (.it .u64))),(6, .val (.li (.it .u64)))])],[],[]⟩,⟨[(0, .d .st),(1, .d .st)],[]⟩,⟨[(0, .d .st)],[]⟩,[.d .st],u9,fun o=>((o,()),()),fun s=>s.1.1⟩
noncomputable def C7l (F:ByteArray→ByteArray→Option u9):FE:=A8T.fe fun s=>F s.1.1 s.1.2.1
abbrev A1L:Type:=Int
noncomputable def B0V:FD:=⟨216,Tryz.f216,19,⟨[(2,[(0, .any),(1, .any),(7, .any),(8, .any)])],[],[]⟩,⟨[(0, .d (.li (.li (.ag (.pr (.ag (.pr .bo .st)) .st))))),(1, .f (.cl 176 []))],[]⟩,⟨[(0, .d (.it .i64))],[]⟩,[.d (.it .i64)],A1L,fun o=>((o,()),()),fun s=>s.1.1⟩
noncomputable def D1r (F:(List (List TQ))→Option A1L):FE:=B0V.fe fun s=>F s.1.1
abbrev B0q:Type:=Int
noncomputable def B6o:FD:=⟨217,Tryz.f217,6,⟨[],[],[]⟩,⟨[(0, .d (.ag (.pr .bo .st)))],[]⟩,⟨[(0, .d (.it .i64))],[]⟩,[.d (.it .i64)],B0q,fun o=>((o,()),()),fun s=>s.1.1⟩
noncomputable def C9w (F:TI→Option B0q):FE:=B6o.fe fun s=>F s.1.1
abbrev A4a:Type:=Int
noncomputable def B8N:FD:=⟨218,Tryz.f218,6,⟨[],[],[]⟩,⟨[(0, .d .st)],[]⟩,⟨[(0, .d (.it .i64))],[]⟩,[.d (.it .i64)],A4a,fun o=>((o,()),()),fun s=>s.1.1⟩
noncomputable def B8l (F:ByteArray→Option A4a):FE:=B8N.fe fun s=>F s.1.1
abbrev A7z:Type:=Int
noncomputable def B7X:FD:=⟨219,Tryz.f219,24,⟨[],[],[]⟩,⟨[(0, .d (.ag (.pr .bo .st))),(1, .d (.ag (.pr .bo .st)))],[]⟩,⟨[(0, .d (.it .i64))],[]⟩,[.d (.it .i64)],A7z,fun o=>((o,()),()),fun s=>s.1.1⟩
noncomputable def D4T (F:TI→TI→Option A7z):FE:=B7X.fe fun s=>F s.1.1 s.1.2.1
abbrev A9o:Type:=Int
noncomputable def B8F:FD:=⟨220,Tryz.f220,32,⟨[],[],[]⟩,⟨[(0, .d (.ag (.pr .bo .st))),(1, .d (.ag (.pr .bo .st)))],[]⟩,⟨[(0, .d (.it .i64))],[]⟩,[.d (.it .i64)],A9o,fun o=>((o,()),()),fun s=>s.1.1⟩
noncomputable def D3Q (F:TI→TI→Option A9o):FE:=B8F.fe fun s=>F s.1.1 s.1.2.1
abbrev T5:Type:=ByteArray
noncomputable def A5K:FD:=⟨221,Tryz.f221,38,⟨[(3,[(0, .any),(3, .own (.it .u8)),(4, .any)]),(6,[(0, .any),(3, .own (.it .u8)),(4, .any),(5, .any)])],[],[]⟩,⟨[(0, .d (.li (.it .u64)))],[]⟩,⟨[(0, .d .st)],[]⟩,[.d .st],T5,fun o=>((o,()),()),fun s=>s.1.1⟩
noncomputable def B4p (F:(List Int)→Option T5):FE:=A5K.fe fun s=>F s.1.1
abbrev B0n:Type:=(ByteArray×ByteArray)
noncomputable def B3h:FD:=⟨222,Tryz.f222,20,⟨[],[],[]⟩,⟨[(0, .d .st),(1, .d .st)],[]⟩,⟨[(0, .d .st),(1, .d .st)],[]⟩,[.d .st, .d .st],B0n,fun o=>((o.1,o.2,()),()),fun s=>(s.1.1,s.1.2.1)⟩
noncomputable def D4j (F:ByteArray→ByteArray→Option B0n):FE:=B3h.fe fun s=>F s.1.1 s.1.2.1
abbrev J3:Type:=ByteArray
noncomputable def A3L:FD:=⟨223,Tryz.f223,55,⟨[(6,[(3, .any),(17, .any),(18, .any),(19, .any)]),(9,[(3, .any),(4, .any),(5, .any),(17, .any),(18, .any),(19, .any),(24, .any)]),(15,[(3, .any),(7, .any)])],[],[]⟩,⟨[(0, .d (.li (.it .u64)))],[]⟩,⟨[(0, .d .st)],[]⟩,[.d .st],J3,fun o=>((o,()),()),fun s=>s.1.1⟩
noncomputable def A5S (F:(List Int)→Option J3):FE:=A3L.fe fun s=>F s.1.1
abbrev X3:Type:=(List Int)
noncomputable def A4T:FD:=⟨224,Tryz.f224,80,⟨[(3,[(1, .any),(5, .any),(20, .any),(21, .any),(22, .any)]),(7,[(1, .any),(5, .any),(6, .any),(7, .any),(8, .any),(20, .any),(21, .any),(22, .any),(27, .any),(28, .any),(29, .any)])],[],[]⟩,⟨[(0, .d (.li (.it .u64))),(1, .d (.li (.it .u64)))],[]⟩,⟨[(0, .d (.li (.it .u64)))],[]⟩,[.d (.li (.it .u64))],X3,fun o=>((o,()),()),fun s=>s.1.1⟩
noncomputable def B9z (F:(List Int)→(List Int)→Option X3):FE:=A4T.fe fun s=>F s.1.1 s.1.2.1
abbrev R9:Type:=(List Int)
noncomputable def A8i:FD:=⟨225,Tryz.f225,39,⟨[(3,[(0, .any),(3, .any),(12, .any),(13, .any)])],[],[]⟩,⟨[(0, .d .st)],[]⟩,⟨[(0, .f (.a (.ref 3000)))],[(3000, .own (.it .u64) true)]⟩,[.own (.it .u64)],R9,fun o=>((),(o,())),fun s=>s.2.1⟩
noncomputable def A5n (F:ByteArray→Option R9):FE:=A8i.fe fun s=>F s.1.1
abbrev A2Y:Type:=ByteArray
noncomputable def A9x:FD:=⟨226,Tryz.f226,60,⟨[(7,[(5, .any),(6, .any),(7, .any),(8, .any),(27, .any),(28, .any)])],[],[]⟩,⟨[(0, .d .st),(1, .d .st)],[]⟩,⟨[(0, .d .st)],[]⟩,[.d .st],A2Y,fun o=>((o,()),()),fun s=>s.1.1⟩
noncomputable def D4F (F:ByteArray→ByteArray→Option A2Y):FE:=A9x.fe fun s=>F s.1.1 s.1.2.1
abbrev A5U:Type:=Int
noncomputable def B5X:FD:=⟨227,Tryz.f227,27,⟨[],[],[]⟩,⟨[(0, .d .st),(1, .d .st)],[]⟩,⟨[(0, .d (.it .i64))],[]⟩,[.d (.it .i64)],A5U,fun o=>((o,()),()),fun s=>s.1.1⟩
noncomputable def C7Y (F:ByteArray→ByteArray→Option A5U):FE:=B5X.fe fun s=>F s.1.1 s.1.2.1
abbrev A1j:Type:=ByteArray
noncomputable def B0p:FD:=⟨228,Tryz.f228,43,⟨[(4,[(5, .any),(6, .any),(7, .any),(15, .any),(16, .any)])],[],[]⟩,⟨[(0, .d .st),(1, .d .st)],[]⟩,⟨[(0, .d .st)],[]⟩,[.d .st],A1j,fun o=>((o,()),()),fun s=>s.1.1⟩
noncomputable def D3R (F:ByteArray→ByteArray→Option A1j):FE:=B0p.fe fun s=>F s.1.1 s.1.2.1
abbrev W9:Type:=(List Int)
noncomputable def A5R:FD:=⟨229,Tryz.f229,34,⟨[(3,[(0, .any),(3, .own (.it .u64)),(4, .any)]),(7,[(0, .any),(3, .any),(4, .any),(5, .any),(6, .any)])],[],[]⟩,⟨[(0, .d .st)],[]⟩,⟨[(0, .f (.a (.ref 3000)))],[(3000, .own (.it .u64) true)]⟩,[.own (.it .u64)],W9,fun o=>((),(o,())),fun s=>s.2.1⟩
noncomputable def C0k (F:ByteArray→Option W9):FE:=A5R.fe fun s=>F s.1.1
abbrev A0u:Type:=(Bool×(List Int))
noncomputable def B0d:FD:=⟨230,Tryz.f230,43,⟨[(5,[(0, .pt),(1, .any),(5, .any)])],[],[]⟩,⟨[(0, .f (.a (.ref 2000))),(1, .d (.li (.it .u64)))],[(2000, .own (.it .u64) false)]⟩,⟨[(0, .d .bo)],[(2000, .own (.it .u64) false)]⟩,[.d .bo],A0u,fun o=>((o.1,()),(o.2,())),fun s=>(s.1.1,s.2.1)⟩
noncomputable def D2O (F:(List Int)→(List Int)→Option A0u):FE:=B0d.fe fun s=>F s.1.1 s.2.1
abbrev B0W:Type:=TI
noncomputable def B4v:FD:=⟨243,Tryz.f243,2,⟨[],[],[]⟩,⟨[],[]⟩,⟨[(0, .d (.ag (.pr .bo .st)))],[]⟩,[.d (.ag (.pr .bo .st))],B0W,fun o=>(((o.1,o.2),()),()),fun s=>(s.1.1.1,s.1.1.2)⟩
noncomputable def C9D (F:Option B0W):FE:=B4v.fe fun s=>F
abbrev Q4:Type:=((List Int)×(List Int))
noncomputable def A2r:FD:=⟨244,Tryz.f244,137,⟨[(7,[(0, .any),(1, .any),(6, .any),(7, .any),(8, .any)]),(17,[(9, .any),(10, .val (.li (.it .u64))),(11, .any),(12, .any),(13, .any),(14, .any)]),(21,[(9, .any),(11, .any),(12, .any),(13, .any),(96, .any),(97, .any)])],[],[]⟩,⟨[(0, .d (.li (.it .u64))),(1, .d (.li (.it .u64)))],[]⟩,⟨[(0, .d (.li (.it .u64))),(1, .d (.li (.it .u64)))],[]⟩,[.d (.li (.it .u64)), .d (.li (.it .u64))],Q4,fun o=>((o.1,o.2,()),()),fun s=>(s.1.1,s.1.2.1)⟩
noncomputable def B9C (F:(List Int)→(List Int)→Option Q4):FE:=A2r.fe fun s=>F s.1.1 s.1.2.1
abbrev e9:Type:=(Int×(List Int))
noncomputable def B0B:FD:=⟨245,Tryz.f245,21,⟨[(2,[(0, .any),(3, .any)])],[],[]⟩,⟨[(0, .f (.a (.ref 2000)))],[(2000, .own (.it .u64) false)]⟩,⟨[(0, .pre 2000)],[(2000, .own (.it .u64) false)]⟩,[.sh],e9,fun o=>((o.1,()),(o.2,())),fun s=>(s.1.1,s.2.1)⟩
noncomputable def B5N (F:(List Int)→Option e9):FE:=B0B.fe fun s=>F s.2.1
abbrev A0r:Type:=(List Int)
noncomputable def A9b:FD:=⟨245,Tryz.f245,21,⟨[(2,[(0, .any),(3, .any)])],[],[]⟩,⟨[(0, .d (.li (.it .u64)))],[]⟩,⟨[(0, .d (.li (.it .u64)))],[]⟩,[.sh],A0r,fun o=>((o,()),()),fun s=>s.1.1⟩
noncomputable def D2Y (F:(List Int)→Option A0r):FE:=A9b.fe fun s=>F s.1.1
abbrev A4x:Type:=(Int×Int)
noncomputable def B4j:FD:=⟨246,Tryz.f246,51,⟨[],[],[]⟩,⟨[(0, .d (.it .u64)),(1, .d (.it .u64))],[]⟩,⟨[(0, .d (.it .u64)),(1, .d (.it .u64))],[]⟩,[.d (.it .u64), .d (.it .u64)],A4x,fun o=>((o.1,o.2,()),()),fun s=>(s.1.1,s.1.2.1)⟩
noncomputable def C4t (F:Int→Int→Option A4x):FE:=B4j.fe fun s=>F s.1.1 s.1.2.1
abbrev A3X:Type:=(Int×Int)
noncomputable def E0Y:FD:=⟨247,Tryz.f247,0,⟨[],[],[]⟩,⟨[(0, .d (.it .u64)),(1, .d (.it .u64)),(2, .d (.it .u64))],[]⟩,⟨[(0, .d (.it .u64)),(1, .d (.it .u64))],[]⟩,[],A3X,fun o=>((o.1,o.2,()),()),fun s=>(s.1.1,s.1.2.1)⟩
noncomputable def B7K (F:Int→Int→Int→Option A3X):FE:=E0Y.fe fun s=>F s.1.1 s.1.2.1 s.1.2.2.1
abbrev A7N:Type:=(Int×Int)
noncomputable def E3H:FD:=⟨248,Tryz.f248,0,⟨[],[],[]⟩,⟨[(0, .d (.it .u64)),(1, .d (.it .u64)),(2, .d (.it .u64))],[]⟩,⟨[(0, .d (.it .u64)),(1, .d (.it .u64))],[]⟩,[],A7N,fun o=>((o.1,o.2,()),()),fun s=>(s.1.1,s.1.2.1)⟩
noncomputable def C3G (F:Int→Int→Int→Option A7N):FE:=E3H.fe fun s=>F s.1.1 s.1.2.1 s.1.2.2.1
abbrev p9:Type:=(Int×(List Int))
noncomputable def B0m:FD:=⟨249,Tryz.f249,21,⟨[(1,[(0, .pt)])],[],[]⟩,⟨[(0, .f (.a (.ref 2000)))],[(2000, .own (.it .u64) false)]⟩,⟨[(0, .pre 2000)],[(2000, .own (.it .u64) false)]⟩,[.sh],p9,fun o=>((o.1,()),(o.2,())),fun s=>(s.1.1,s.2.1)⟩
noncomputable def C6e (F:(List Int)→Option p9):FE:=B0m.fe fun s=>F s.2.1
abbrev A1e:Type:=Int
noncomputable def A9l:FD:=⟨276,Tryz.f276,41,⟨[(6,[(0, .any),(1, .any),(5, .any)])],[],[]⟩,⟨[(0, .d (.li (.it .u64))),(1, .d (.li (.it .u64)))],[]⟩,⟨[(0, .d (.it .i64))],[]⟩,[.d (.it .i64)],A1e,fun o=>((o,()),()),fun s=>s.1.1⟩
noncomputable def C9J (F:(List Int)→(List Int)→Option A1e):FE:=A9l.fe fun s=>F s.1.1 s.1.2.1
abbrev W3:Type:=(Int×Int)
noncomputable def A4X:FD:=⟨277,Tryz.f277,135,⟨[(17,[(2, .any),(8, .any),(9, .any),(10, .any),(11, .any),(13, .any),(14, .any),(15, .any),(16, .any)]),(24,[(2, .any),(8, .any),(9, .any),(10, .any),(14, .any),(15, .any),(16, .any),(17, .any),(18, .any)])],[],[]⟩,⟨[(0, .d (.it .u64)),(1, .d (.it .u64)),(2, .d (.it .u64))],[]⟩,⟨[(0, .d (.it .u64)),(1, .d (.it .u64))],[]⟩,[.d (.it .u64), .d (.it .u64)],W3,fun o=>((o.1,o.2,()),()),fun s=>(s.1.1,s.1.2.1)⟩
noncomputable def C7M (F:Int→Int→Int→Option W3):FE:=A4X.fe fun s=>F s.1.1 s.1.2.1 s.1.2.2.1
abbrev A4q:Type:=Int
noncomputable def B6S:FD:=⟨278,Tryz.f278,6,⟨[],[],[]⟩,⟨[(0, .d (.it .u64))],[]⟩,⟨[(0, .d (.it .i64))],[]⟩,[.d (.it .i64)],A4q,fun o=>((o,()),()),fun s=>s.1.1⟩
noncomputable def C0p (F:Int→Option A4q):FE:=B6S.fe fun s=>F s.1.1
abbrev A2U:Type:=(List Int)
noncomputable def A7w:FD:=⟨279,Tryz.f279,40,⟨[(3,[(1, .any),(5, .any),(12, .any),(13, .any),(14, .any)])],[],[]⟩,⟨[(0, .d (.li (.it .u64))),(1, .d (.it .i64))],[]⟩,⟨[(0, .f (.a (.ref 3000)))],[(3000, .own (.it .u64) true)]⟩,[.own (.it .u64)],A2U,fun o=>((),(o,())),fun s=>s.2.1⟩
noncomputable def C8d (F:(List Int)→Int→Option A2U):FE:=A7w.fe fun s=>F s.1.1 s.1.2.1
abbrev T4:Type:=(Int×(List Int))
noncomputable def A2b:FD:=⟨280,Tryz.f280,186,⟨[(8,[(0, .any),(1, .any),(5, .any),(6, .any),(7, .any),(8, .any)]),(15,[(0, .any),(1, .any),(5, .any),(6, .any),(11, .any),(12, .any),(104, .any),(105, .any)]),(28,[(0, .any),(1, .any),(5, .any),(6, .any),(17, .any),(156, .any),(157, .any)])],[],[]⟩,⟨[(0, .f (.a (.ref 2000))),(1, .d (.li (.it .u64)))],[(2000, .own (.it .u64) false)]⟩,⟨[(0, .d (.it .u64))],[(2000, .own (.it .u64) false)]⟩,[.d (.it .u64)],T4,fun o=>((o.1,()),(o.2,())),fun s=>(s.1.1,s.2.1)⟩
noncomputable def D5P (F:(List Int)→(List Int)→Option T4):FE:=A2b.fe fun s=>F s.1.1 s.2.1
abbrev B1d:Type:=Int
noncomputable def D5V:FD:=⟨297,Tryz.f297,25,⟨[],[],[]⟩,⟨[(0, .d (.it .u64))],[]⟩,⟨[(0, .d (.it .i64))],[]⟩,[.d (.it .i64)],B1d,fun o=>((o,()),()),fun s=>s.1.1⟩
noncomputable def C9S (F:Int→Option B1d):FE:=D5V.fe fun s=>F s.1.1
noncomputable def B15 (x0:(List TQ)):Option R15:=some (wrap64 ((x0.length:Int)-1))
theorem e15 (s:D15.ask.T):D15.ev E0 [] [] s=B15 s.1.1:=by kernel_rfl
noncomputable def C5m (x0:TI):Option A5g:=B2 (x0.1) (some (-1)) (B2 ((E6 x0.2 (⟨#[]⟩:ByteArray))) (some 0) (some 1))
theorem F1k (s:B4f.ask.T):B4f.ev E0 [] [] s=C5m s.1.1:=by kernel_rfl
noncomputable def D4w (c173:TI→Option A5g):List FE:=[C7y c173]
section
variable (c173:TI→Option A5g)
noncomputable def B1m (x0:TQ):Option A5W:=(c173 x0.1).bind fun r1=>(some r1)
theorem E3y (s:B4o.ask.T):B4o.ev E0 (D4w c173) [] s=B1m c173 s.1.1:=by kernel_rfl
end
noncomputable def C4e (x0:ByteArray):Option A5G:=B2 ((E6 x0 (⟨#[]⟩:ByteArray))) (some true) (if(0:Int)≤0 then(if 0<(x0.size:Int)then(some (decide (bt x0 0≠0)))else(none))else(none))
theorem F0G (s:B8E.ask.T):B8E.ev E0 [] [] s=C4e s.1.1:=by kernel_rfl
noncomputable def D5E (c178:ByteArray→Option A5G):List FE:=[C1x c178]
section
variable (c178:ByteArray→Option A5G)
noncomputable def C6A (x0:TI):Option A8p:=(c178 x0.2).bind fun r1=>(B2 (r1) (B2 ((!x0.1)) (some true) (some (!(E6 x0.2 (⟨#[]⟩:ByteArray))))) (some false))
theorem E5X (s:B4i.ask.T):B4i.ev E0 (D5E c178) [] s=C6A c178 s.1.1:=by kernel_rfl
end
noncomputable def C1s (x0:ByteArray):Option A4a:=if(x0.size:Int)>1024 then(some 4)else(some 0)
theorem D9b (s:B8N.ask.T):B8N.ev E0 [] [] s=C1s s.1.1:=by kernel_rfl
noncomputable def C8y (c218:ByteArray→Option A4a):List FE:=[B8l c218]
section
variable (c218:ByteArray→Option A4a)
noncomputable def C6v (x0:TI):Option B0q:=(c218 x0.2).bind fun r1=>(some r1)
theorem D8v (s:B6o.ask.T):B6o.ev E0 (C8y c218) [] s=C6v c218 s.1.1:=by kernel_rfl
end
noncomputable def D1m (c217:TI→Option B0q) (c218:ByteArray→Option A4a):List FE:=[C9w c217,B8l c218]
section
variable (c217:TI→Option B0q) (c218:ByteArray→Option A4a)
noncomputable def A9W (x0:TQ):Option B0H:=(c217 x0.1).bind fun r1=>(if r1≠0 then(some 4)else((c218 x0.2).bind fun r2=>(some r2)))
theorem E6s (s:B4c.ask.T):B4c.ev E0 (D1m c217 c218) [] s=A9W c217 c218 s.1.1:=by kernel_rfl
end
noncomputable def C0J:Sk:=⟨[(0, .d (.li (.it .u64))),(3, .f (.a (.ref 3))),(4, .d (.it .i64))],[(3, .own (.it .u8) true)]⟩
noncomputable def C5K:Sk:=⟨[(0, .d (.li (.it .u64))),(3, .f (.a (.ref 3))),(4, .d (.it .i64)),(5, .d (.it .i64))],[(3, .own (.it .u8) true)]⟩
noncomputable def B7P (gl0:(List Int)→Int→(List Int)→Option T5) (gl1:(List Int)→Int→Int→(List Int)→Option T5):List (C6 T5):=[⟨3,C0J,fun s=>gl0 s.1.1 s.1.2.1 s.2.1⟩,⟨6,C5K,fun s=>gl1 s.1.1 s.1.2.1 s.1.2.2.1 s.2.1⟩]
section
variable (gl0:(List Int)→Int→(List Int)→Option T5) (gl1:(List Int)→Int→Int→(List Int)→Option T5)
noncomputable def C0U (x0:(List Int)) (x4:Int) (x3:(List Int)):Option T5:=if x4≥0 then(gl1 x0 x4 24 x3)else(some (strOfNums x3))
theorem E0d (s0:C3 A5K.ask.bl) (s:C0J.T):A5K.po E0 [] (B7P gl0 gl1) s0 0 (C0J.mk' s)=C0U gl1 s.1.1 s.1.2.1 s.2.1:=by kernel_rfl
noncomputable def C5N (x0:(List Int)) (x4:Int) (x5:Int) (x3:(List Int)):Option T5:=if x5≥0 then(if 0≤x4 then(if x4<(x0.length:Int)then(if 0≤x5 then(if(x3.length:Int)>0 then(if(x3.length+1)*1≤140737488355328 then(gl1 x0 x4 (wrap64 (x5-8)) (x3++([IntKind.u8.wrap (shr .u64 (rd x0 x4) x5)]:List Int)))else(none))else(if IntKind.u8.wrap (shr .u64 (rd x0 x4) x5)>0 then(if(x3.length+1)*1≤140737488355328 then(gl1 x0 x4 (wrap64 (x5-8)) (x3++([IntKind.u8.wrap (shr .u64 (rd x0 x4) x5)]:List Int)))else(none))else(gl1 x0 x4 (wrap64 (x5-8)) x3)))else(none))else(none))else(none))else(gl0 x0 (wrap64 (x4-1)) x3)
theorem F3Q (s0:C3 A5K.ask.bl) (s:C5K.T):A5K.po E0 [] (B7P gl0 gl1) s0 1 (C5K.mk' s)=C5N gl0 gl1 s.1.1 s.1.2.1 s.1.2.2.1 s.2.1:=by kernel_rfl
noncomputable def C2e (x0:(List Int)):Option T5:=gl0 x0 (wrap64 ((x0.length:Int)-1)) ([]:List Int)
theorem E1L (s:A5K.ask.T):A5K.ev E0 [] (B7P gl0 gl1) s=C2e gl0 s.1.1:=by kernel_rfl
end
noncomputable def B9F:Sk:=⟨[(0, .pre 2000)],[(2000, .own (.it .u64) false)]⟩
noncomputable def C4J (gl0:Int→(List Int)→Option p9):List (C6 p9):=[⟨1,B9F,fun s=>gl0 s.1.1 s.2.1⟩]
section
variable (gl0:Int→(List Int)→Option p9)
noncomputable def B8a (x0:Int) (y0:(List Int)):Option p9:=if x0-0>0 then(if 0≤wrap64 ((x0-0)-1)then(if wrap64 ((x0-0)-1)<x0-0 then(if rd y0 (0+(wrap64 ((x0-0)-1)))=0 then(if(0:Int)≤0 then(if 0≤wrap64 ((x0-0)-1)then(if wrap64 ((x0-0)-1)≤x0-0 then(if x0-0≤x0-0 then(gl0 (0+(wrap64 ((x0-0)-1))) y0)else(none))else(none))else(none))else(none))else(some (x0,y0)))else(none))else(none))else(some (x0,y0))
theorem E3Z (s0:C3 B0m.ask.bl) (s:B9F.T):B0m.po E0 [] (C4J gl0) s0 0 (B9F.mk' s)=B8a gl0 s.1.1 s.2.1:=by kernel_rfl
noncomputable def C6D (y0:(List Int)):Option p9:=gl0 (y0.length:Int) y0
theorem E2S (s:B0m.ask.T):B0m.ev E0 [] (C4J gl0) s=C6D gl0 s.2.1:=by kernel_rfl
end
noncomputable def C8C:Sk:=⟨[(0, .d .st),(3, .f (.a (.ref 3))),(4, .d (.it .i64))],[(3, .own (.it .u64) true)]⟩
noncomputable def C0F:Sk:=⟨[(0, .d .st),(3, .f (.a (.ref 3))),(4, .d (.it .i64)),(5, .d (.it .u64)),(6, .d (.it .i64))],[(3, .own (.it .u64) true)]⟩
noncomputable def B4d (gl0:ByteArray→Int→(List Int)→Option W9) (gl1:ByteArray→Int→Int→Int→(List Int)→Option W9):List (C6 W9):=[⟨3,C8C,fun s=>gl0 s.1.1 s.1.2.1 s.2.1⟩,⟨7,C0F,fun s=>gl1 s.1.1 s.1.2.1 s.1.2.2.1 s.1.2.2.2.1 s.2.1⟩]
noncomputable def B7z (c249:(List Int)→Option p9):List FE:=[C6e c249]
section
variable (gl0:ByteArray→Int→(List Int)→Option W9) (gl1:ByteArray→Int→Int→Int→(List Int)→Option W9) (c249:(List Int)→Option p9)
noncomputable def C6W (x0:ByteArray) (x4:Int) (x3:(List Int)):Option W9:=if x4>0 then(gl1 x0 x4 0 (mx 0 (wrap64 (x4-4))) x3)else((c249 x3).bind fun r1=>(some (r1.2.take (r1.1:Int).toNat)))
theorem D9P (s0:C3 A5R.ask.bl) (s:C8C.T):A5R.po E0 (B7z c249) (B4d gl0 gl1) s0 0 (C8C.mk' s)=C6W gl1 c249 s.1.1 s.1.2.1 s.2.1:=by kernel_rfl
noncomputable def B8o (x0:ByteArray) (x4:Int) (x5:Int) (x6:Int) (x3:(List Int)):Option W9:=if x6<x4 then(if 0≤x6 then(if x6<(x0.size:Int)then(gl1 x0 x4 (IntKind.u64.wrap ((IntKind.u64.wrap (x5*256))+(IntKind.u64.wrap (bt x0 x6)))) (wrap64 (x6+1)) x3)else(none))else(none))else(if(x3.length+1)*8≤140737488355328 then(gl0 x0 (wrap64 (x4-4)) (x3++([x5]:List Int)))else(none))
theorem E2K (s0:C3 A5R.ask.bl) (s:C0F.T):A5R.po E0 (B7z c249) (B4d gl0 gl1) s0 1 (C0F.mk' s)=B8o gl0 gl1 s.1.1 s.1.2.1 s.1.2.2.1 s.1.2.2.2.1 s.2.1:=by kernel_rfl
noncomputable def C4K (x0:ByteArray):Option W9:=gl0 x0 (x0.size:Int) ([]:List Int)
theorem D8b (s:A5R.ask.T):A5R.ev E0 (B7z c249) (B4d gl0 gl1) s=C4K gl0 s.1.1:=by kernel_rfl
end
noncomputable def C6a:Sk:=⟨[(0, .pre 2000),(1, .d (.li (.it .u64))),(5, .d (.it .i64))],[(2000, .own (.it .u64) false)]⟩
noncomputable def C4M (gl0:Int→(List Int)→Int→(List Int)→Option A0u):List (C6 A0u):=[⟨5,C6a,fun s=>gl0 s.1.1 s.1.2.1 s.1.2.2.1 s.2.1⟩]
noncomputable def C7g (c249:(List Int)→Option p9):List FE:=[C6e c249]
section
variable (gl0:Int→(List Int)→Int→(List Int)→Option A0u) (c249:(List Int)→Option p9)
noncomputable def C4D (x0:Int) (x1:(List Int)) (x5:Int) (y0:(List Int)):Option A0u:=if x5≥0 then(if 0≤x5 then(if x5<x0-0 then(if 0≤x5 then(if x5<(x1.length:Int)then(if rd y0 (0+x5)≠rd x1 x5 then(if 0≤x5 then(if x5<x0-0 then(if 0≤x5 then(if x5<(x1.length:Int)then(some (decide (rd y0 (0+x5)<rd x1 x5),y0))else(none))else(none))else(none))else(none))else(gl0 x0 x1 (wrap64 (x5-1)) y0))else(none))else(none))else(none))else(none))else(some (false,y0))
theorem F2i (s0:C3 B0d.ask.bl) (s:C6a.T):B0d.po E0 (C7g c249) (C4M gl0) s0 0 (C6a.mk' s)=C4D gl0 s.1.1 s.1.2.1 s.1.2.2.1 s.2.1:=by kernel_rfl
noncomputable def C3E (x1:(List Int)) (y0:(List Int)):Option A0u:=(c249 y0).bind fun r1=>(if r1.1-0≠(x1.length:Int)then(some (decide (r1.1-0<(x1.length:Int)),r1.2))else(gl0 r1.1 x1 (wrap64 ((r1.1-0)-1)) r1.2))
theorem F0h (s:B0d.ask.T):B0d.ev E0 (C7g c249) (C4M gl0) s=C3E gl0 c249 s.1.1 s.2.1:=by kernel_rfl
end
noncomputable def C0I:Sk:=⟨[(7, .d (.li (.it .u64))),(8, .d (.it .i64)),(9, .f (.a (.ref 9))),(10, .f (.a (.ref 10))),(11, .d (.it .i64))],[(9, .own (.it .u64) true),(10, .own (.it .u64) true)]⟩
noncomputable def C0r:Sk:=⟨[(7, .d (.li (.it .u64))),(8, .d (.it .i64)),(9, .f (.a (.ref 9))),(10, .f (.a (.ref 10))),(11, .d (.it .i64))],[(9, .own (.it .u64) true),(10, .own (.it .u64) true)]⟩
noncomputable def C8G:Sk:=⟨[(7, .d (.li (.it .u64))),(8, .d (.it .i64)),(9, .f (.a (.ref 9))),(10, .f (.a (.ref 10))),(11, .d (.it .i64)),(12, .d (.it .u64)),(13, .d (.it .u64)),(14, .d (.it .i64))],[(9, .own (.it .u64) true),(10, .own (.it .u64) true)]⟩
noncomputable def B1p (gl0:(List Int)→Int→Int→(List Int)→(List Int)→Option Q5) (gl1:(List Int)→Int→Int→(List Int)→(List Int)→Option Q5) (gl2:(List Int)→Int→Int→Int→Int→Int→(List Int)→(List Int)→Option Q5):List (C6 Q5):=[⟨8,C0I,fun s=>gl0 s.1.1 s.1.2.1 s.1.2.2.1 s.2.1 s.2.2.1⟩,⟨10,C0r,fun s=>gl1 s.1.1 s.1.2.1 s.1.2.2.1 s.2.1 s.2.2.1⟩,⟨15,C8G,fun s=>gl2 s.1.1 s.1.2.1 s.1.2.2.1 s.1.2.2.2.1 s.1.2.2.2.2.1 s.1.2.2.2.2.2.1 s.2.1 s.2.2.1⟩]
noncomputable def B2q (c221:(List Int)→Option T5) (c229:ByteArray→Option W9) (c230:(List Int)→(List Int)→Option A0u):List FE:=[B4p c221,C0k c229,D2O c230]
section
variable (gl0:(List Int)→Int→Int→(List Int)→(List Int)→Option Q5) (gl1:(List Int)→Int→Int→(List Int)→(List Int)→Option Q5) (gl2:(List Int)→Int→Int→Int→Int→Int→(List Int)→(List Int)→Option Q5) (c221:(List Int)→Option T5) (c229:ByteArray→Option W9) (c230:(List Int)→(List Int)→Option A0u)
noncomputable def C6g (x7:(List Int)) (x8:Int) (x11:Int) (x9:(List Int)) (x10:(List Int)):Option Q5:=if x11≥0 then(gl1 x7 x8 x11 x9 x10)else((c221 x10).bind fun r1=>((c221 x9).bind fun r2=>(some (r1,r2))))
theorem F1L (s0:C3 A2m.ask.bl) (s:C0I.T):A2m.po E0 (B2q c221 c229 c230) (B1p gl0 gl1 gl2) s0 0 (C0I.mk' s)=C6g gl1 c221 s.1.1 s.1.2.1 s.1.2.2.1 s.2.1 s.2.2.1:=by kernel_rfl
noncomputable def C6k (x7:(List Int)) (x8:Int) (x11:Int) (x9:(List Int)) (x10:(List Int)):Option Q5:=if 0≤x11 then(if x11≤(x9.length:Int)then(if(x9.length:Int)≤(x9.length:Int)then(if(x9.length:Int)≤(x9.length:Int)then((c230 x7 (slice_ x9 x11 (x9.length:Int))).bind fun r1=>(B2 ((!r1.1)) (if 0≤wrap64 (x11+x8)then(if wrap64 (x11+x8)<((x9.take ((x11:Int).toNat)++r1.2++x9.drop (((x9.length:Int):Int).toNat)).length:Int)then(if(0:Int)≤32 then(if 0≤wrap64 ((wrap64 (x11+x8))-1)then(if wrap64 ((wrap64 (x11+x8))-1)<((x9.take ((x11:Int).toNat)++r1.2++x9.drop (((x9.length:Int):Int).toNat)).length:Int)then(if 0≤wrap64 (x8-1)then(if wrap64 (x8-1)<(x7.length:Int)then(if IntKind.u64.wrap ((rd x7 (wrap64 (x8-1)))+1)=0 then(none)else(if 0≤x11 then(if x11<(x10.length:Int)then(if 0≤x11 then(if x11<(x10.length:Int)then(gl2 x7 x8 x11 (mx 1 (IntKind.u64.wrap (Int.tdiv (IntKind.u64.wrap ((IntKind.u64.wrap ((rd (x9.take ((x11:Int).toNat)++r1.2++x9.drop (((x9.length:Int):Int).toNat)) (wrap64 (x11+x8)))*4294967296))+(rd (x9.take ((x11:Int).toNat)++r1.2++x9.drop (((x9.length:Int):Int).toNat)) (wrap64 ((wrap64 (x11+x8))-1))))) (IntKind.u64.wrap ((rd x7 (wrap64 (x8-1)))+1))))) 0 0 (x9.take ((x11:Int).toNat)++r1.2++x9.drop (((x9.length:Int):Int).toNat)) (x10.set (x11:Int).toNat (IntKind.u64.wrap ((rd x10 x11)+(mx 1 (IntKind.u64.wrap (Int.tdiv (IntKind.u64.wrap ((IntKind.u64.wrap ((rd (x9.take ((x11:Int).toNat)++r1.2++x9.drop (((x9.length:Int):Int).toNat)) (wrap64 (x11+x8)))*4294967296))+(rd (x9.take ((x11:Int).toNat)++r1.2++x9.drop (((x9.length:Int):Int).toNat)) (wrap64 ((wrap64 (x11+x8))-1))))) (IntKind.u64.wrap ((rd x7 (wrap64 (x8-1)))+1)))))))))else(none))else(none))else(none))else(none)))else(none))else(none))else(none))else(none))else(none))else(none))else(none)) (gl0 x7 x8 (wrap64 (x11-1)) (x9.take ((x11:Int).toNat)++r1.2++x9.drop (((x9.length:Int):Int).toNat)) x10)))else(none))else(none))else(none))else(none)
theorem E5H (s0:C3 A2m.ask.bl) (s:C0r.T):A2m.po E0 (B2q c221 c229 c230) (B1p gl0 gl1 gl2) s0 1 (C0r.mk' s)=C6k gl0 gl2 c230 s.1.1 s.1.2.1 s.1.2.2.1 s.2.1 s.2.2.1:=by kernel_rfl
noncomputable def C1L (x7:(List Int)) (x8:Int) (x11:Int) (x12:Int) (x13:Int) (x14:Int) (x9:(List Int)) (x10:(List Int)):Option Q5:=if x14<x8 then(if 0≤x14 then(if x14<(x7.length:Int)then(if(0:Int)≤32 then(if 0≤wrap64 (x11+x14)then(if wrap64 (x11+x14)<(x9.length:Int)then(if rd x9 (wrap64 (x11+x14))<Go.bits .and .u64 (IntKind.u64.wrap ((IntKind.u64.wrap ((rd x7 x14)*x12))+x13)) 4294967295 then(if 0≤wrap64 (x11+x14)then(if wrap64 (x11+x14)<(x9.length:Int)then(if 0≤wrap64 (x11+x14)then(if wrap64 (x11+x14)<(x9.length:Int)then(if 0≤wrap64 (x11+x14)then(if wrap64 (x11+x14)<((x9.set (wrap64 (x11+x14):Int).toNat (IntKind.u64.wrap ((rd x9 (wrap64 (x11+x14)))+4294967296))).length:Int)then(if 0≤wrap64 (x11+x14)then(if wrap64 (x11+x14)<((x9.set (wrap64 (x11+x14):Int).toNat (IntKind.u64.wrap ((rd x9 (wrap64 (x11+x14)))+4294967296))).length:Int)then(gl2 x7 x8 x11 x12 (IntKind.u64.wrap (((IntKind.u64.wrap ((IntKind.u64.wrap ((rd x7 x14)*x12))+x13))/4294967296)+1)) (wrap64 (x14+1)) ((x9.set (wrap64 (x11+x14):Int).toNat (IntKind.u64.wrap ((rd x9 (wrap64 (x11+x14)))+4294967296))).set (wrap64 (x11+x14):Int).toNat (IntKind.u64.wrap ((rd (x9.set (wrap64 (x11+x14):Int).toNat (IntKind.u64.wrap ((rd x9 (wrap64 (x11+x14)))+4294967296))) (wrap64 (x11+x14)))-(Go.bits .and .u64 (IntKind.u64.wrap ((IntKind.u64.wrap ((rd x7 x14)*x12))+x13)) 4294967295)))) x10)else(none))else(none))else(none))else(none))else(none))else(none))else(none))else(none))else(if 0≤wrap64 (x11+x14)then(if wrap64 (x11+x14)<(x9.length:Int)then(if 0≤wrap64 (x11+x14)then(if wrap64 (x11+x14)<(x9.length:Int)then(gl2 x7 x8 x11 x12 ((IntKind.u64.wrap ((IntKind.u64.wrap ((rd x7 x14)*x12))+x13))/4294967296) (wrap64 (x14+1)) (x9.set (wrap64 (x11+x14):Int).toNat (IntKind.u64.wrap ((rd x9 (wrap64 (x11+x14)))-(Go.bits .and .u64 (IntKind.u64.wrap ((IntKind.u64.wrap ((rd x7 x14)*x12))+x13)) 4294967295)))) x10)else(none))else(none))else(none))else(none)))else(none))else(none))else(none))else(none))else(none))else(if 0≤wrap64 (x11+x8)then(if wrap64 (x11+x8)<(x9.length:Int)then(if 0≤wrap64 (x11+x8)then(if wrap64 (x11+x8)<(x9.length:Int)then(gl1 x7 x8 x11 (x9.set (wrap64 (x11+x8):Int).toNat (IntKind.u64.wrap ((rd x9 (wrap64 (x11+x8)))-x13))) x10)else(none))else(none))else(none))else(none))
theorem E0b (s0:C3 A2m.ask.bl) (s:C8G.T):A2m.po E0 (B2q c221 c229 c230) (B1p gl0 gl1 gl2) s0 2 (C8G.mk' s)=C1L gl1 gl2 s.1.1 s.1.2.1 s.1.2.2.1 s.1.2.2.2.1 s.1.2.2.2.2.1 s.1.2.2.2.2.2.1 s.2.1 s.2.2.1:=by kernel_rfl
noncomputable def C3r (x0:ByteArray) (x1:ByteArray):Option Q5:=B2 ((E6 x1 (⟨#[]⟩:ByteArray))) (some ((⟨#[]⟩:ByteArray),(⟨#[]⟩:ByteArray))) ((c229 x0).bind fun r1=>((c229 x1).bind fun r2=>(if(r1.length+1)*8≤140737488355328 then(if 0≤mx 0 (wrap64 ((wrap64 ((r1.length:Int)-(r2.length:Int)))+1))then(if mx 0 (wrap64 ((wrap64 ((r1.length:Int)-(r2.length:Int)))+1))≤mx 0 (wrap64 ((wrap64 ((r1.length:Int)-(r2.length:Int)))+1))then(if(mx 0 (wrap64 ((wrap64 ((r1.length:Int)-(r2.length:Int)))+1)):Int).toNat≤35184372088832 then(gl0 r2 (r2.length:Int) (wrap64 (((List.replicate (mx 0 (wrap64 ((wrap64 ((r1.length:Int)-(r2.length:Int)))+1)):Int).toNat (0:Int)).length:Int)-1)) (r1++([0]:List Int)) (List.replicate (mx 0 (wrap64 ((wrap64 ((r1.length:Int)-(r2.length:Int)))+1)):Int).toNat (0:Int)))else(none))else(none))else(none))else(none))))
theorem D6P (s:A2m.ask.T):A2m.ev E0 (B2q c221 c229 c230) (B1p gl0 gl1 gl2) s=C3r gl0 c229 s.1.1 s.1.2.1:=by kernel_rfl
end
noncomputable def C2Z:Sk:=⟨[(0, .d .st),(1, .d .st)],[]⟩
noncomputable def C0l (gl0:ByteArray→ByteArray→Option m6):List (C6 m6):=[⟨1,C2Z,fun s=>gl0 s.1.1 s.1.2.1⟩]
noncomputable def C7H (c203:ByteArray→ByteArray→Option Q5):List FE:=[C1p c203]
section
variable (gl0:ByteArray→ByteArray→Option m6) (c203:ByteArray→ByteArray→Option Q5)
noncomputable def C0q (x0:ByteArray) (x1:ByteArray):Option m6:=B2 ((!(E6 x1 (⟨#[]⟩:ByteArray)))) ((c203 x0 x1).bind fun r1=>(gl0 x1 r1.2)) (some x0)
theorem D9r (s0:C3 A9A.ask.bl) (s:C2Z.T):A9A.po E0 (C7H c203) (C0l gl0) s0 0 (C2Z.mk' s)=C0q gl0 c203 s.1.1 s.1.2.1:=by kernel_rfl
noncomputable def C4Y (x0:ByteArray) (x1:ByteArray):Option m6:=gl0 x0 x1
theorem E4x (s:A9A.ask.T):A9A.ev E0 (C7H c203) (C0l gl0) s=C4Y gl0 s.1.1 s.1.2.1:=by kernel_rfl
end
noncomputable def D5U (c177:TI→Option A8p) (c178:ByteArray→Option A5G) (c179:TQ→Option B0H) (c180:ByteArray→ByteArray→Option m6):List FE:=[C8e c177,C1x c178,D5H c179,C0D c180]
section
variable (c177:TI→Option A8p) (c178:ByteArray→Option A5G) (c179:TQ→Option B0H) (c180:ByteArray→ByteArray→Option m6)
noncomputable def A4I (x0:TQ):Option A5F:=(c177 x0.1).bind fun r1=>(B2 ((!r1)) (some 1) ((c178 x0.2).bind fun r2=>(B2 ((!r2)) (some 1) (B2 ((E6 x0.2 (⟨#[]⟩:ByteArray))) (some 1) ((c179 x0).bind fun r3=>(if r3≠0 then(some 4)else((c180 x0.1.2 x0.2).bind fun r4=>(B2 ((!(E6 r4 (⟨#[1]⟩:ByteArray)))) (some 1) (some 0)))))))))
theorem E2n (s:B4V.ask.T):B4V.ev E0 (D5U c177 c178 c179 c180) [] s=A4I c177 c178 c179 c180 s.1.1:=by kernel_rfl
end
noncomputable def C4P:Sk:=⟨[(0, .d (.li (.ag (.pr (.ag (.pr .bo .st)) .st)))),(9, .d (.li (.ag (.pr (.ag (.pr .bo .st)) .st)))),(10, .d (.it .i64)),(11, .d (.it .i64))],[]⟩
noncomputable def C0C (gl0:(List TQ)→(List TQ)→Int→Int→Option X8):List (C6 X8):=[⟨4,C4P,fun s=>gl0 s.1.1 s.1.2.1 s.1.2.2.1 s.1.2.2.2.1⟩]
noncomputable def C3g (c123:TQ→Option A5W) (c135:TQ→Option A5F):List FE:=[C3Y c123,C6c c135]
section
variable (gl0:(List TQ)→(List TQ)→Int→Int→Option X8) (c123:TQ→Option A5W) (c135:TQ→Option A5F)
noncomputable def A5j (x0:(List TQ)) (x9:(List TQ)) (x10:Int) (x11:Int):Option X8:=if x11<x10 then(if 0≤x11 then(if x11<(x9.length:Int)then((c135 (C2 ((false,(⟨#[]⟩:ByteArray)),(⟨#[]⟩:ByteArray)) x9 x11)).bind fun r1=>(if r1≠0 then(some r1)else(gl0 x0 x9 x10 (wrap64 (x11+1)))))else(none))else(none))else(if(x0.length:Int)>0 then(if 0≤wrap64 ((x0.length:Int)-1)then(if wrap64 ((x0.length:Int)-1)<(x0.length:Int)then((c123 (C2 ((false,(⟨#[]⟩:ByteArray)),(⟨#[]⟩:ByteArray)) x0 (wrap64 ((x0.length:Int)-1)))).bind fun r2=>(if r2=0 then(some 1)else(some 0)))else(none))else(none))else(some 0))
theorem D9K (s0:C3 D69.ask.bl) (s:C4P.T):D69.po E0 (C3g c123 c135) (C0C gl0) s0 0 (C4P.mk' s)=A5j gl0 c123 c135 s.1.1 s.1.2.1 s.1.2.2.1 s.1.2.2.2.1:=by kernel_rfl
noncomputable def B69 (x0:(List TQ)):Option X8:=if(x0.length:Int)>65 then(some 4)else(gl0 x0 x0 (x0.length:Int) 0)
theorem e69 (s:D69.ask.T):D69.ev E0 (C3g c123 c135) (C0C gl0) s=B69 gl0 s.1.1:=by kernel_rfl
end
noncomputable def D4Q (c221:(List Int)→Option T5):List FE:=[B4p c221]
section
variable (c221:(List Int)→Option T5)
noncomputable def C0K (x0:Int):Option A9g:=if(0:Int)≤32 then((c221 ([Go.bits .and .u64 x0 4294967295,x0/4294967296]:List Int)).bind fun r1=>(some r1))else(none)
theorem E4F (s:B6B.ask.T):B6B.ev E0 (D4Q c221) [] s=C0K c221 s.1.1:=by kernel_rfl
end
noncomputable def D5L (c183:Int→Option A9g):List FE:=[D0h c183]
section
variable (c183:Int→Option A9g)
noncomputable def C3l (x0:Int):Option A8G:=if x0<0 then((c183 (IntKind.u64.wrap ((IntKind.u64.wrap (wrap64 (0-(wrap64 (x0+1)))))+1))).bind fun r1=>(some (true,r1)))else((c183 (IntKind.u64.wrap (x0))).bind fun r2=>(some (false,r2)))
theorem E5l (s:B7r.ask.T):B7r.ev E0 (D5L c183) [] s=C3l c183 s.1.1:=by kernel_rfl
end
noncomputable def D2b (c141:Int→Option A8G):List FE:=[D4y c141]
section
variable (c141:Int→Option A8G)
noncomputable def B81 (x0:Int):Option R81:=(c141 x0).bind fun r1=>(some ((r1.1,r1.2),(⟨#[1]⟩:ByteArray)))
theorem e81 (s:D81.ask.T):D81.ev E0 (D2b c141) [] s=B81 c141 s.1.1:=by kernel_rfl
end
noncomputable def D1U (c81:Int→Option R81):List FE:=[B2K c81]
section
variable (c81:Int→Option R81)
noncomputable def B80 (x0:(List TQ)):Option R80:=if(x0.length:Int)=0 then((c81 0).bind fun r1=>(some (r1.1,r1.2)))else(if 0≤wrap64 ((x0.length:Int)-1)then(if wrap64 ((x0.length:Int)-1)<(x0.length:Int)then(some ((C2 ((false,(⟨#[]⟩:ByteArray)),(⟨#[]⟩:ByteArray)) x0 (wrap64 ((x0.length:Int)-1))).1,(C2 ((false,(⟨#[]⟩:ByteArray)),(⟨#[]⟩:ByteArray)) x0 (wrap64 ((x0.length:Int)-1))).2))else(none))else(none))
theorem e80 (s:D80.ask.T):D80.ev E0 (D1U c81) [] s=B80 c81 s.1.1:=by kernel_rfl
end
noncomputable def B82 (x0:TQ):Option R82:=some (E6 x0.2 (⟨#[1]⟩:ByteArray))
theorem e82 (s:D82.ask.T):D82.ev E0 [] [] s=B82 s.1.1:=by kernel_rfl
noncomputable def B9x:Sk:=⟨[(1, .f (.a (.ptr 1 0 []))),(24, .d (.li (.ag (.pr (.ag (.pr .bo .st)) .st)))),(25, .d (.it .i64)),(26, .d (.it .i64))],[(1, .cell (.ag (.li (.ag (.pr (.ag (.pr .bo .st)) .st)))) true)]⟩
noncomputable def C1K (gl0:(List TQ)→Int→Int→(List TQ)→Option R3):List (C6 R3):=[⟨7,B9x,fun s=>gl0 s.1.1 s.1.2.1 s.1.2.2.1 s.2.1⟩]
noncomputable def C0d (c15:(List TQ)→Option R15) (c69:(List TQ)→Option X8) (c80:(List TQ)→Option R80) (c81:Int→Option R81) (c82:TQ→Option R82):List FE:=[B7H c15,B2r c69,D2X c80,B2K c81,D3F c82]
section
variable (gl0:(List TQ)→Int→Int→(List TQ)→Option R3) (c15:(List TQ)→Option R15) (c69:(List TQ)→Option X8) (c80:(List TQ)→Option R80) (c81:Int→Option R81) (c82:TQ→Option R82)
noncomputable def A7P (x24:(List TQ)) (x25:Int) (x26:Int) (x1:(List TQ)):Option R3:=if x26<x25 then(if 0≤x26 then(if x26<(x24.length:Int)then((c82 (C2 ((false,(⟨#[]⟩:ByteArray)),(⟨#[]⟩:ByteArray)) x24 x26)).bind fun r1=>(B2 ((!r1)) (some 1) (gl0 x24 x25 (wrap64 (x26+1)) x1)))else(none))else(none))else((c15 x1).bind fun r2=>(if r2>24 then(some 4)else(some 0)))
theorem E0m (s0:C3 D13.ask.bl) (s:B9x.T):D13.po E0 (C0d c15 c69 c80 c81 c82) (C1K gl0) s0 0 (B9x.mk' s)=A7P gl0 c15 c82 s.1.1 s.1.2.1 s.1.2.2.1 s.2.1:=by kernel_rfl
noncomputable def B13 (x0:(List TQ)):Option R3:=(c69 x0).bind fun r1=>(if r1≠0 then(some r1)else(if(x0.length:Int)<2 then(some 1)else((c80 x0).bind fun r2=>((c81 1).bind fun r3=>(B2 ((!(((r2.1.1==r3.1.1)&&(E6 r2.1.2 r3.1.2))&&(E6 r2.2 r3.2)))) (some 1) (gl0 x0 (x0.length:Int) 0 x0))))))
theorem e13 (s:D13.ask.T):D13.ev E0 (C0d c15 c69 c80 c81 c82) (C1K gl0) s=B13 gl0 c69 c80 c81 s.1.1:=by kernel_rfl
end
noncomputable def D3d (c13:(List TQ)→Option R3) (c15:(List TQ)→Option R15) (c69:(List TQ)→Option X8):List FE:=[A6J c13,B7H c15,B2r c69]
section
variable (c13:(List TQ)→Option R3) (c15:(List TQ)→Option R15) (c69:(List TQ)→Option X8)
noncomputable def B55 (x0:(List TQ)) (x1:(List TQ)):Option R55:=(c13 x0).bind fun r1=>(if r1≠0 then(some r1)else((c69 x1).bind fun r2=>(if r2=0 then((c15 x0).bind fun r3=>(if(x1.length:Int)>r3 then(some 3)else(some r2)))else(some r2))))
theorem e55 (s:D55.ask.T):D55.ev E0 (D3d c13 c15 c69) [] s=B55 c13 c15 c69 s.1.1 s.1.2.1:=by kernel_rfl
end
noncomputable def C3P:Sk:=⟨[(1, .d (.li (.li (.ag (.pr (.ag (.pr .bo .st)) .st))))),(2, .f (.a (.ptr 2 0 []))),(16, .d (.li (.li (.ag (.pr (.ag (.pr .bo .st)) .st))))),(17, .d (.it .i64)),(18, .d (.it .i64))],[(2, .cell (.ag (.li (.ag (.pr (.ag (.pr .bo .st)) .st)))) true)]⟩
noncomputable def C8O (gl0:(List (List TQ))→(List (List TQ))→Int→Int→(List TQ)→Option a9):List (C6 a9):=[⟨7,C3P,fun s=>gl0 s.1.1 s.1.2.1 s.1.2.2.1 s.1.2.2.2.1 s.2.1⟩]
noncomputable def C1G (c13:(List TQ)→Option R3) (c55:(List TQ)→(List TQ)→Option R55):List FE:=[A6J c13,D6M c55]
section
variable (gl0:(List (List TQ))→(List (List TQ))→Int→Int→(List TQ)→Option a9) (c13:(List TQ)→Option R3) (c55:(List TQ)→(List TQ)→Option R55)
noncomputable def A7R (x1:(List (List TQ))) (x16:(List (List TQ))) (x17:Int) (x18:Int) (x2:(List TQ)):Option a9:=if x18<x17 then(if 0≤x18 then(if x18<(x16.length:Int)then((c55 x2 (C2 ([]:List TQ) x16 x18)).bind fun r1=>(if r1≠0 then(some r1)else(gl0 x1 x16 x17 (wrap64 (x18+1)) x2)))else(none))else(none))else(if(x1.length:Int)>0 then(if 0≤wrap64 ((x1.length:Int)-1)then(if wrap64 ((x1.length:Int)-1)<(x1.length:Int)then(if((C2 ([]:List TQ) x1 (wrap64 ((x1.length:Int)-1))).length:Int)=0 then(some 1)else(some 0))else(none))else(none))else(some 0))
theorem D7V (s0:C3 D14.ask.bl) (s:C3P.T):D14.po E0 (C1G c13 c55) (C8O gl0) s0 0 (C3P.mk' s)=A7R gl0 c55 s.1.1 s.1.2.1 s.1.2.2.1 s.1.2.2.2.1 s.2.1:=by kernel_rfl
noncomputable def B14 (x0:(List TQ)) (x1:(List (List TQ))):Option a9:=(c13 x0).bind fun r1=>(if r1≠0 then(some r1)else(if(x1.length:Int)>65 then(some 4)else(gl0 x1 x1 (x1.length:Int) 0 x0)))
theorem e14 (s:D14.ask.T):D14.ev E0 (C1G c13 c55) (C8O gl0) s=B14 gl0 c13 s.1.1 s.1.2.1:=by kernel_rfl
end
noncomputable def C5x:Sk:=⟨[(17, .d (.li (.ag (.pr (.ag (.pr .bo .st)) .st)))),(18, .d (.it .i64)),(19, .d (.it .i64))],[]⟩
noncomputable def C3A (gl0:(List TQ)→Int→Int→Option o5):List (C6 o5):=[⟨4,C5x,fun s=>gl0 s.1.1 s.1.2.1 s.1.2.2.1⟩]
noncomputable def B8O (c69:(List TQ)→Option X8):List FE:=[B2r c69]
section
variable (gl0:(List TQ)→Int→Int→Option o5) (c69:(List TQ)→Option X8)
noncomputable def A7M (x17:(List TQ)) (x18:Int) (x19:Int):Option o5:=if x19<x18 then(if 0≤x19 then(if x19<(x17.length:Int)then(if((((C2 ((false,(⟨#[]⟩:ByteArray)),(⟨#[]⟩:ByteArray)) x17 x19).1).2).size:Int)>8 then(some false)else(if(((C2 ((false,(⟨#[]⟩:ByteArray)),(⟨#[]⟩:ByteArray)) x17 x19).2).size:Int)>8 then(some false)else(gl0 x17 x18 (wrap64 (x19+1)))))else(none))else(none))else(some true)
theorem D9F (s0:C3 D70.ask.bl) (s:C5x.T):D70.po E0 (B8O c69) (C3A gl0) s0 0 (C5x.mk' s)=A7M gl0 s.1.1 s.1.2.1 s.1.2.2.1:=by kernel_rfl
noncomputable def B70 (x0:(List TQ)) (x1:Int):Option o5:=if(x0.length:Int)>wrap64 (x1+1)then(some false)else((c69 x0).bind fun r1=>(if r1≠0 then(some false)else(gl0 x0 (x0.length:Int) 0)))
theorem e70 (s:D70.ask.T):D70.ev E0 (B8O c69) (C3A gl0) s=B70 gl0 c69 s.1.1 s.1.2.1:=by kernel_rfl
end
noncomputable def D4d (c13:(List TQ)→Option R3) (c15:(List TQ)→Option R15) (c70:(List TQ)→Int→Option o5):List FE:=[A6J c13,B7H c15,C7a c70]
section
variable (c13:(List TQ)→Option R3) (c15:(List TQ)→Option R15) (c70:(List TQ)→Int→Option o5)
noncomputable def B49 (x0:(List TQ)) (x1:(List TQ)):Option R49:=(c13 x0).bind fun r1=>(if r1=0 then((c15 x0).bind fun r2=>(if(x1.length:Int)≤r2 then((c15 x0).bind fun r3=>((c70 x1 r3).bind fun r4=>(some r4)))else(some false)))else(some false))
theorem e49 (s:D49.ask.T):D49.ev E0 (D4d c13 c15 c70) [] s=B49 c13 c15 c70 s.1.1 s.1.2.1:=by kernel_rfl
end
noncomputable def C3I:Sk:=⟨[(19, .d (.li (.ag (.pr (.ag (.pr .bo .st)) .st)))),(20, .d (.it .i64)),(21, .d (.it .i64))],[]⟩
noncomputable def C6S (gl0:(List TQ)→Int→Int→Option z9):List (C6 z9):=[⟨4,C3I,fun s=>gl0 s.1.1 s.1.2.1 s.1.2.2.1⟩]
noncomputable def C4I (c13:(List TQ)→Option R3):List FE:=[A6J c13]
section
variable (gl0:(List TQ)→Int→Int→Option z9) (c13:(List TQ)→Option R3)
noncomputable def A6p (x19:(List TQ)) (x20:Int) (x21:Int):Option z9:=if x21<x20 then(if 0≤x21 then(if x21<(x19.length:Int)then(if((((C2 ((false,(⟨#[]⟩:ByteArray)),(⟨#[]⟩:ByteArray)) x19 x21).1).2).size:Int)>4 then(some false)else(gl0 x19 x20 (wrap64 (x21+1))))else(none))else(none))else(some true)
theorem E9L (s0:C3 D79.ask.bl) (s:C3I.T):D79.po E0 (C4I c13) (C6S gl0) s0 0 (C3I.mk' s)=A6p gl0 s.1.1 s.1.2.1 s.1.2.2.1:=by kernel_rfl
noncomputable def B79 (x0:(List TQ)) (x1:Int):Option z9:=if(x0.length:Int)>wrap64 (x1+1)then(some false)else((c13 x0).bind fun r1=>(if r1≠0 then(some false)else(gl0 x0 (x0.length:Int) 0)))
theorem e79 (s:D79.ask.T):D79.ev E0 (C4I c13) (C6S gl0) s=B79 gl0 c13 s.1.1 s.1.2.1:=by kernel_rfl
end
noncomputable def C1X:Sk:=⟨[(4, .f (.a (.ptr 4 0 []))),(28, .d (.li (.li (.ag (.pr (.ag (.pr .bo .st)) .st))))),(29, .d (.it .i64)),(30, .d (.it .i64))],[(4, .cell (.ag (.li (.ag (.pr (.ag (.pr .bo .st)) .st)))) true)]⟩
noncomputable def C4o (gl0:(List (List TQ))→Int→Int→(List TQ)→Option R26):List (C6 R26):=[⟨4,C1X,fun s=>gl0 s.1.1 s.1.2.1 s.1.2.2.1 s.2.1⟩]
noncomputable def B9U (c14:(List TQ)→(List (List TQ))→Option a9) (c49:(List TQ)→(List TQ)→Option R49) (c79:(List TQ)→Int→Option z9):List FE:=[B3w c14,C9k c49,B8g c79]
section
variable (gl0:(List (List TQ))→Int→Int→(List TQ)→Option R26) (c14:(List TQ)→(List (List TQ))→Option a9) (c49:(List TQ)→(List TQ)→Option R49) (c79:(List TQ)→Int→Option z9)
noncomputable def A6u (x28:(List (List TQ))) (x29:Int) (x30:Int) (x4:(List TQ)):Option R26:=if x30<x29 then(if 0≤x30 then(if x30<(x28.length:Int)then((c49 x4 (C2 ([]:List TQ) x28 x30)).bind fun r1=>(B2 ((!r1)) (some false) (gl0 x28 x29 (wrap64 (x30+1)) x4)))else(none))else(none))else(some true)
theorem F1m (s0:C3 D26.ask.bl) (s:C1X.T):D26.po E0 (B9U c14 c49 c79) (C4o gl0) s0 0 (C1X.mk' s)=A6u gl0 c49 s.1.1 s.1.2.1 s.1.2.2.1 s.2.1:=by kernel_rfl
noncomputable def B26 (x0:(List TQ)) (x1:(List (List TQ))) (x2:Int) (x3:Int):Option R26:=(c79 x0 x2).bind fun r1=>(B2 ((!r1)) (some false) (if(x1.length:Int)>wrap64 (x3+1)then(some false)else((c14 x0 x1).bind fun r2=>(if r2≠0 then(some false)else(gl0 x1 (x1.length:Int) 0 x0)))))
theorem e26 (s:D26.ask.T):D26.ev E0 (B9U c14 c49 c79) (C4o gl0) s=B26 gl0 c14 c79 s.1.1 s.1.2.1 s.1.2.2.1 s.1.2.2.2.1:=by kernel_rfl
end
noncomputable def B9Q:Sk:=⟨[(2, .f (.a (.ptr 2 0 []))),(10, .d (.li (.li (.li (.ag (.pr (.ag (.pr .bo .st)) .st)))))),(11, .d (.it .i64)),(12, .d (.it .i64))],[(2, .cell (.ag (.li (.ag (.pr (.ag (.pr .bo .st)) .st)))) true)]⟩
noncomputable def B9J (gl0:(List (List (List TQ)))→Int→Int→(List TQ)→Option R12):List (C6 R12):=[⟨4,B9Q,fun s=>gl0 s.1.1 s.1.2.1 s.1.2.2.1 s.2.1⟩]
noncomputable def C7e (c13:(List TQ)→Option R3) (c14:(List TQ)→(List (List TQ))→Option a9) (c26:(List TQ)→(List (List TQ))→Int→Int→Option R26) (c79:(List TQ)→Int→Option z9):List FE:=[A6J c13,B3w c14,C9C c26,B8g c79]
section
variable (gl0:(List (List (List TQ)))→Int→Int→(List TQ)→Option R12) (c13:(List TQ)→Option R3) (c14:(List TQ)→(List (List TQ))→Option a9) (c26:(List TQ)→(List (List TQ))→Int→Int→Option R26) (c79:(List TQ)→Int→Option z9)
noncomputable def A6P (x10:(List (List (List TQ)))) (x11:Int) (x12:Int) (x2:(List TQ)):Option R12:=if x12<x11 then(if 0≤x12 then(if x12<(x10.length:Int)then((c14 x2 (C2 ([]:List (List TQ)) x10 x12)).bind fun r1=>(if r1=0 then((c26 x2 (C2 ([]:List (List TQ)) x10 x12) 4 4).bind fun r2=>(B2 ((!r2)) (some true) (gl0 x10 x11 (wrap64 (x12+1)) x2)))else(gl0 x10 x11 (wrap64 (x12+1)) x2)))else(none))else(none))else((c79 x2 4).bind fun r3=>(some (!r3)))
theorem E4N (s0:C3 D12.ask.bl) (s:B9Q.T):D12.po E0 (C7e c13 c14 c26 c79) (B9J gl0) s0 0 (B9Q.mk' s)=A6P gl0 c14 c26 c79 s.1.1 s.1.2.1 s.1.2.2.1 s.2.1:=by kernel_rfl
noncomputable def B12 (x0:(List TQ)) (x1:(List (List (List TQ)))):Option R12:=(c13 x0).bind fun r1=>(if r1≠0 then(some false)else(gl0 x1 (x1.length:Int) 0 x0))
theorem e12 (s:D12.ask.T):D12.ev E0 (C7e c13 c14 c26 c79) (B9J gl0) s=B12 gl0 c13 s.1.1 s.1.2.1:=by kernel_rfl
end
noncomputable def A7S (x0:TI):Option A2n:=some (x0,(⟨#[1]⟩:ByteArray))
theorem E6G (s:B4Q.ask.T):B4Q.ev E0 [] [] s=A7S s.1.1:=by kernel_rfl
noncomputable def C8P:Sk:=⟨[(0, .d (.li (.it .u64))),(3, .d (.it .i64))],[]⟩
noncomputable def C8S (gl0:(List Int)→Int→Option A0r):List (C6 A0r):=[⟨2,C8P,fun s=>gl0 s.1.1 s.1.2.1⟩]
section
variable (gl0:(List Int)→Int→Option A0r)
noncomputable def C2w (x0:(List Int)) (x3:Int):Option A0r:=if x3>0 then(if 0≤wrap64 (x3-1)then(if wrap64 (x3-1)<(x0.length:Int)then(if rd x0 (wrap64 (x3-1))=0 then(gl0 x0 (wrap64 (x3-1)))else(if(0:Int)≤0 then(if 0≤x3 then(if x3≤(x0.length:Int)then(if(x0.length:Int)≤(x0.length:Int)then(some (slice_ x0 0 x3))else(none))else(none))else(none))else(none)))else(none))else(none))else(if(0:Int)≤0 then(if 0≤x3 then(if x3≤(x0.length:Int)then(if(x0.length:Int)≤(x0.length:Int)then(some (slice_ x0 0 x3))else(none))else(none))else(none))else(none))
theorem E4Y (s0:C3 A9b.ask.bl) (s:C8P.T):A9b.po E0 [] (C8S gl0) s0 0 (C8P.mk' s)=C2w gl0 s.1.1 s.1.2.1:=by kernel_rfl
noncomputable def C7z (x0:(List Int)):Option A0r:=gl0 x0 (x0.length:Int)
theorem D8z (s:A9b.ask.T):A9b.ev E0 [] (C8S gl0) s=C7z gl0 s.1.1:=by kernel_rfl
end
noncomputable def C6P:Sk:=⟨[(3, .f (.a (.ref 3))),(17, .d (.li (.it .u64))),(18, .d (.it .i64)),(19, .d (.it .i64))],[(3, .own (.it .u8) true)]⟩
noncomputable def B8j:Sk:=⟨[(3, .f (.a (.ref 3))),(4, .d (.it .i64)),(5, .d (.it .u64)),(17, .d (.li (.it .u64))),(18, .d (.it .i64)),(19, .d (.it .i64)),(24, .d (.it .i64))],[(3, .own (.it .u8) true)]⟩
noncomputable def C0g:Sk:=⟨[(3, .f (.a (.ref 3))),(7, .d (.it .i64))],[(3, .own (.it .u8) true)]⟩
noncomputable def B2f (gl0:(List Int)→Int→Int→(List Int)→Option J3) (gl1:Int→Int→(List Int)→Int→Int→Int→(List Int)→Option J3) (gl2:Int→(List Int)→Option J3):List (C6 J3):=[⟨6,C6P,fun s=>gl0 s.1.1 s.1.2.1 s.1.2.2.1 s.2.1⟩,⟨9,B8j,fun s=>gl1 s.1.1 s.1.2.1 s.1.2.2.1 s.1.2.2.2.1 s.1.2.2.2.2.1 s.1.2.2.2.2.2.1 s.2.1⟩,⟨15,C0g,fun s=>gl2 s.1.1 s.2.1⟩]
noncomputable def B2d (c245v:(List Int)→Option A0r):List FE:=[D2Y c245v]
section
variable (gl0:(List Int)→Int→Int→(List Int)→Option J3) (gl1:Int→Int→(List Int)→Int→Int→Int→(List Int)→Option J3) (gl2:Int→(List Int)→Option J3) (c245v:(List Int)→Option A0r)
noncomputable def C4d (x17:(List Int)) (x18:Int) (x19:Int) (x3:(List Int)):Option J3:=if x19<x18 then(if 0≤x19 then(if x19<(x17.length:Int)then(gl1 x19 (rd x17 x19) x17 x18 x19 0 x3)else(none))else(none))else(gl2 0 x3)
theorem F2V (s0:C3 A3L.ask.bl) (s:C6P.T):A3L.po E0 (B2d c245v) (B2f gl0 gl1 gl2) s0 0 (C6P.mk' s)=C4d gl1 gl2 s.1.1 s.1.2.1 s.1.2.2.1 s.2.1:=by kernel_rfl
noncomputable def C5C (x4:Int) (x5:Int) (x17:(List Int)) (x18:Int) (x19:Int) (x24:Int) (x3:(List Int)):Option J3:=if x24<8 then(if 0≤wrap64 (8*x24)then(if 0≤wrap64 ((wrap64 ((wrap64 ((x3.length:Int)-1))-(wrap64 (8*x4))))-x24)then(if wrap64 ((wrap64 ((wrap64 ((x3.length:Int)-1))-(wrap64 (8*x4))))-x24)<(x3.length:Int)then(gl1 x4 x5 x17 x18 x19 (wrap64 (x24+1)) (x3.set (wrap64 ((wrap64 ((wrap64 ((x3.length:Int)-1))-(wrap64 (8*x4))))-x24):Int).toNat (IntKind.u8.wrap (shr .u64 x5 (wrap64 (8*x24))))))else(none))else(none))else(none))else(gl0 x17 x18 (wrap64 (x19+1)) x3)
theorem E2H (s0:C3 A3L.ask.bl) (s:B8j.T):A3L.po E0 (B2d c245v) (B2f gl0 gl1 gl2) s0 1 (B8j.mk' s)=C5C gl0 gl1 s.1.1 s.1.2.1 s.1.2.2.1 s.1.2.2.2.1 s.1.2.2.2.2.1 s.1.2.2.2.2.2.1 s.2.1:=by kernel_rfl
noncomputable def C8A (x7:Int) (x3:(List Int)):Option J3:=if 0≤x7 then(if x7<(x3.length:Int)then(if rd x3 x7=0 then(gl2 (wrap64 (x7+1)) x3)else(if 0≤x7 then(if x7≤(x3.length:Int)then(if(x3.length:Int)≤(x3.length:Int)then(if(x3.length:Int)≤(x3.length:Int)then(some (strOfNums (slice_ x3 x7 (x3.length:Int))))else(none))else(none))else(none))else(none)))else(none))else(none)
theorem D7W (s0:C3 A3L.ask.bl) (s:C0g.T):A3L.po E0 (B2d c245v) (B2f gl0 gl1 gl2) s0 2 (C0g.mk' s)=C8A gl2 s.1.1 s.2.1:=by kernel_rfl
noncomputable def C5B (x0:(List Int)):Option J3:=(c245v x0).bind fun r1=>(if(r1.length:Int)=0 then(some (⟨#[]⟩:ByteArray))else(if 0≤wrap64 (8*(r1.length:Int))then(if wrap64 (8*(r1.length:Int))≤wrap64 (8*(r1.length:Int))then(if(wrap64 (8*(r1.length:Int)):Int).toNat≤281474976710656 then(gl0 r1 (r1.length:Int) 0 (List.replicate (wrap64 (8*(r1.length:Int)):Int).toNat (0:Int)))else(none))else(none))else(none)))
theorem D6y (s:A3L.ask.T):A3L.ev E0 (B2d c245v) (B2f gl0 gl1 gl2) s=C5B gl0 c245v s.1.1:=by kernel_rfl
end
noncomputable def D0M (c223:(List Int)→Option J3):List FE:=[A5S c223]
section
variable (c223:(List Int)→Option J3)
noncomputable def B8x (x0:Int):Option A8O:=(c223 ([x0]:List Int)).bind fun r1=>(some r1)
theorem D9D (s:B5d.ask.T):B5d.ev E0 (D0M c223) [] s=B8x c223 s.1.1:=by kernel_rfl
end
noncomputable def D1d (c193:Int→Option A8O):List FE:=[D0r c193]
section
variable (c193:Int→Option A8O)
noncomputable def C4a (x0:Int):Option B0J:=if x0<0 then((c193 (IntKind.u64.wrap (0-(IntKind.u64.wrap (x0))))).bind fun r1=>(some (true,r1)))else((c193 (IntKind.u64.wrap (x0))).bind fun r2=>(some (false,r2)))
theorem E2X (s:B4T.ask.T):B4T.ev E0 (D1d c193) [] s=C4a c193 s.1.1:=by kernel_rfl
end
noncomputable def D2j (c149:TI→Option A2n) (c150:Int→Option B0J):List FE:=[B5P c149,D2L c150]
section
variable (c149:TI→Option A2n) (c150:Int→Option B0J)
noncomputable def B89 (x0:Int):Option S5:=(c150 x0).bind fun r1=>((c149 (r1.1,r1.2)).bind fun r2=>(some (r2.1,r2.2)))
theorem e89 (s:D89.ask.T):D89.ev E0 (D2j c149 c150) [] s=B89 c149 c150 s.1.1:=by kernel_rfl
end
noncomputable def C3c (x0:TQ):Option A0W:=some (E6 x0.1.2 (⟨#[]⟩:ByteArray))
theorem F3I (s:B6F.ask.T):B6F.ev E0 [] [] s=C3c s.1.1:=by kernel_rfl
noncomputable def C7c (x0:ByteArray):Option A4j:=if(x0.size:Int)>0 then(if(0:Int)≤0 then(if 0<(x0.size:Int)then(if bt x0 0=0 then(some 1)else(if(x0.size:Int)>1024 then(some 4)else(some 0)))else(none))else(none))else(if(x0.size:Int)>1024 then(some 4)else(some 0))
theorem F0n (s:B5v.ask.T):B5v.ev E0 [] [] s=C7c s.1.1:=by kernel_rfl
noncomputable def C6d:Option B0W:=some (false,(⟨#[]⟩:ByteArray))
theorem E3C (s:B4v.ask.T):B4v.ev E0 [] [] s=C6d:=by kernel_rfl
noncomputable def D1X (c214:ByteArray→Option A4j) (c243:Option B0W):List FE:=[C1J c214,C9D c243]
section
variable (c214:ByteArray→Option A4j) (c243:Option B0W)
noncomputable def B9O (x0:TI):Option B0D:=(c214 x0.2).bind fun r1=>(if r1=1 then(some r1)else((c243).bind fun r2=>(B2 ((!((x0.1==r2.1)&&(E6 x0.2 r2.2)))) (B2 ((E6 x0.2 (⟨#[]⟩:ByteArray))) (some 1) (some r1)) (some r1))))
theorem E5c (s:B3v.ask.T):B3v.ev E0 (D1X c214 c243) [] s=B9O c214 c243 s.1.1:=by kernel_rfl
end
noncomputable def C7V:Sk:=⟨[(0, .f (.a (.ref 2000))),(3, .d (.it .i64))],[(2000, .own (.it .u64) false)]⟩
noncomputable def C5O (gl0:Int→(List Int)→Option e9):List (C6 e9):=[⟨2,C7V,fun s=>gl0 s.1.1 s.2.1⟩]
section
variable (gl0:Int→(List Int)→Option e9)
noncomputable def C6U (x3:Int) (y0:(List Int)):Option e9:=if x3>0 then(if 0≤wrap64 (x3-1)then(if wrap64 (x3-1)<(y0.length:Int)then(if rd y0 (wrap64 (x3-1))=0 then(gl0 (wrap64 (x3-1)) y0)else(if(0:Int)≤0 then(if 0≤x3 then(if x3≤(y0.length:Int)then(if(y0.length:Int)≤(y0.length:Int)then(some (x3,y0))else(none))else(none))else(none))else(none)))else(none))else(none))else(if(0:Int)≤0 then(if 0≤x3 then(if x3≤(y0.length:Int)then(if(y0.length:Int)≤(y0.length:Int)then(some (x3,y0))else(none))else(none))else(none))else(none))
theorem F0q (s0:C3 B0B.ask.bl) (s:C7V.T):B0B.po E0 [] (C5O gl0) s0 0 (C7V.mk' s)=C6U gl0 s.1.1 s.2.1:=by kernel_rfl
noncomputable def D2E (y0:(List Int)):Option e9:=gl0 (y0.length:Int) y0
theorem E9G (s:B0B.ask.T):B0B.ev E0 [] (C5O gl0) s=D2E gl0 s.2.1:=by kernel_rfl
end
noncomputable def C1k:Sk:=⟨[(0, .d .st),(3, .f (.a (.ref 3))),(12, .d (.it .i64)),(13, .d (.it .i64))],[(3, .own (.it .u64) true)]⟩
noncomputable def B8w (gl0:ByteArray→Int→Int→(List Int)→Option R9):List (C6 R9):=[⟨3,C1k,fun s=>gl0 s.1.1 s.1.2.1 s.1.2.2.1 s.2.1⟩]
noncomputable def B9s (c245:(List Int)→Option e9):List FE:=[B5N c245]
section
variable (gl0:ByteArray→Int→Int→(List Int)→Option R9) (c245:(List Int)→Option e9)
noncomputable def C7o (x0:ByteArray) (x12:Int) (x13:Int) (x3:(List Int)):Option R9:=if x13<x12 then(if(8:Int)=0 then(none)else(if 0≤wrap64 (Int.tdiv (wrap64 ((wrap64 ((x0.size:Int)-1))-x13)) 8)then(if wrap64 (Int.tdiv (wrap64 ((wrap64 ((x0.size:Int)-1))-x13)) 8)<(x3.length:Int)then(if 0≤x13 then(if x13<(x0.size:Int)then(if(8:Int)=0 then(none)else(if 0≤wrap64 (8*(Int.tmod (wrap64 ((wrap64 ((x0.size:Int)-1))-x13)) 8))then(if 0≤wrap64 (Int.tdiv (wrap64 ((wrap64 ((x0.size:Int)-1))-x13)) 8)then(if wrap64 (Int.tdiv (wrap64 ((wrap64 ((x0.size:Int)-1))-x13)) 8)<(x3.length:Int)then(gl0 x0 x12 (wrap64 (x13+1)) (x3.set (wrap64 (Int.tdiv (wrap64 ((wrap64 ((x0.size:Int)-1))-x13)) 8):Int).toNat (Go.bits .or .u64 (rd x3 (wrap64 (Int.tdiv (wrap64 ((wrap64 ((x0.size:Int)-1))-x13)) 8))) (shl .u64 (IntKind.u64.wrap (bt x0 x13)) (wrap64 (8*(Int.tmod (wrap64 ((wrap64 ((x0.size:Int)-1))-x13)) 8)))))))else(none))else(none))else(none)))else(none))else(none))else(none))else(none)))else((c245 x3).bind fun r1=>(some (r1.2.take (r1.1:Int).toNat)))
theorem E2w (s0:C3 A8i.ask.bl) (s:C1k.T):A8i.po E0 (B9s c245) (B8w gl0) s0 0 (C1k.mk' s)=C7o gl0 c245 s.1.1 s.1.2.1 s.1.2.2.1 s.2.1:=by kernel_rfl
noncomputable def C0n (x0:ByteArray):Option R9:=if(8:Int)=0 then(none)else(if 0≤wrap64 (Int.tdiv (wrap64 ((x0.size:Int)+7)) 8)then(if wrap64 (Int.tdiv (wrap64 ((x0.size:Int)+7)) 8)≤wrap64 (Int.tdiv (wrap64 ((x0.size:Int)+7)) 8)then(if(wrap64 (Int.tdiv (wrap64 ((x0.size:Int)+7)) 8):Int).toNat≤35184372088832 then(gl0 x0 (x0.size:Int) 0 (List.replicate (wrap64 (Int.tdiv (wrap64 ((x0.size:Int)+7)) 8):Int).toNat (0:Int)))else(none))else(none))else(none))
theorem F3b (s:A8i.ask.T):A8i.ev E0 (B9s c245) (B8w gl0) s=C0n gl0 s.1.1:=by kernel_rfl
end
noncomputable def B9Z:Sk:=⟨[(0, .d (.li (.it .u64))),(1, .d (.li (.it .u64))),(5, .d (.it .i64))],[]⟩
noncomputable def B8e (gl0:(List Int)→(List Int)→Int→Option A1e):List (C6 A1e):=[⟨6,B9Z,fun s=>gl0 s.1.1 s.1.2.1 s.1.2.2.1⟩]
section
variable (gl0:(List Int)→(List Int)→Int→Option A1e)
noncomputable def B9p (x0:(List Int)) (x1:(List Int)) (x5:Int):Option A1e:=if x5≥0 then(if 0≤x5 then(if x5<(x0.length:Int)then(if 0≤x5 then(if x5<(x1.length:Int)then(if rd x0 x5≠rd x1 x5 then(if 0≤x5 then(if x5<(x0.length:Int)then(if 0≤x5 then(if x5<(x1.length:Int)then(if rd x0 x5<rd x1 x5 then(some (-1))else(some 1))else(none))else(none))else(none))else(none))else(gl0 x0 x1 (wrap64 (x5-1))))else(none))else(none))else(none))else(none))else(some 0)
theorem E0U (s0:C3 A9l.ask.bl) (s:B9Z.T):A9l.po E0 [] (B8e gl0) s0 0 (B9Z.mk' s)=B9p gl0 s.1.1 s.1.2.1 s.1.2.2.1:=by kernel_rfl
noncomputable def C6H (x0:(List Int)) (x1:(List Int)):Option A1e:=if(x0.length:Int)≠(x1.length:Int)then(if(x0.length:Int)<(x1.length:Int)then(some (-1))else(some 1))else(gl0 x0 x1 (wrap64 ((x0.length:Int)-1)))
theorem D7w (s:A9l.ask.T):A9l.ev E0 [] (B8e gl0) s=C6H gl0 s.1.1 s.1.2.1:=by kernel_rfl
end
noncomputable def D3Y (c297:Int→Option B1d):List FE:=[C9S c297]
section
variable (c297:Int→Option B1d)
noncomputable def B8q (x0:Int):Option A4q:=(c297 x0).bind fun r1=>(some (wrap64 (64-r1)))
theorem E4k (s:B6S.ask.T):B6S.ev E0 (D3Y c297) [] s=B8q c297 s.1.1:=by kernel_rfl
end
noncomputable def C2h:Sk:=⟨[(2, .d (.it .u64)),(8, .d (.it .u64)),(9, .d (.it .u64)),(10, .d (.it .u64)),(11, .d (.it .u64)),(13, .d (.it .u64)),(14, .d (.it .u64)),(15, .d (.it .u64)),(16, .d (.it .u64))],[]⟩
noncomputable def C5L:Sk:=⟨[(2, .d (.it .u64)),(8, .d (.it .u64)),(9, .d (.it .u64)),(10, .d (.it .u64)),(14, .d (.it .u64)),(15, .d (.it .u64)),(16, .d (.it .u64)),(17, .d (.it .u64)),(18, .d (.it .u64))],[]⟩
noncomputable def B7A (gl0:Int→Int→Int→Int→Int→Int→Int→Int→Int→Option W3) (gl1:Int→Int→Int→Int→Int→Int→Int→Int→Int→Option W3):List (C6 W3):=[⟨17,C2h,fun s=>gl0 s.1.1 s.1.2.1 s.1.2.2.1 s.1.2.2.2.1 s.1.2.2.2.2.1 s.1.2.2.2.2.2.1 s.1.2.2.2.2.2.2.1 s.1.2.2.2.2.2.2.2.1 s.1.2.2.2.2.2.2.2.2.1⟩,⟨24,C5L,fun s=>gl1 s.1.1 s.1.2.1 s.1.2.2.1 s.1.2.2.2.1 s.1.2.2.2.2.1 s.1.2.2.2.2.2.1 s.1.2.2.2.2.2.2.1 s.1.2.2.2.2.2.2.2.1 s.1.2.2.2.2.2.2.2.2.1⟩]
noncomputable def B7p (c278:Int→Option A4q):List FE:=[C0p c278]
section
variable (gl0:Int→Int→Int→Int→Int→Int→Int→Int→Int→Option W3) (gl1:Int→Int→Int→Int→Int→Int→Int→Int→Int→Option W3) (c278:Int→Option A4q)
noncomputable def C5w (x2:Int) (x8:Int) (x9:Int) (x10:Int) (x11:Int) (x13:Int) (x14:Int) (x15:Int) (x16:Int):Option W3:=if x15≥4294967296 then(if IntKind.u64.wrap (x16+x9)≥4294967296 then(if x9=0 then(none)else(gl1 x2 x8 x9 x10 x14 (IntKind.u64.wrap (x15-1)) (IntKind.u64.wrap ((IntKind.u64.wrap ((IntKind.u64.wrap ((IntKind.u64.wrap (x11*4294967296))+x13))-(IntKind.u64.wrap ((IntKind.u64.wrap (x15-1))*x2))))-(IntKind.u64.wrap ((IntKind.u64.wrap (Int.tdiv (IntKind.u64.wrap ((IntKind.u64.wrap ((IntKind.u64.wrap (x11*4294967296))+x13))-(IntKind.u64.wrap ((IntKind.u64.wrap (x15-1))*x2)))) x9))*x9)))) (IntKind.u64.wrap ((IntKind.u64.wrap ((IntKind.u64.wrap (x11*4294967296))+x13))-(IntKind.u64.wrap ((IntKind.u64.wrap (x15-1))*x2)))) (IntKind.u64.wrap (Int.tdiv (IntKind.u64.wrap ((IntKind.u64.wrap ((IntKind.u64.wrap (x11*4294967296))+x13))-(IntKind.u64.wrap ((IntKind.u64.wrap (x15-1))*x2)))) x9))))else(gl0 x2 x8 x9 x10 x11 x13 x14 (IntKind.u64.wrap (x15-1)) (IntKind.u64.wrap (x16+x9))))else(if IntKind.u64.wrap (x15*x10)>IntKind.u64.wrap ((IntKind.u64.wrap (4294967296*x16))+x13)then(if IntKind.u64.wrap (x16+x9)≥4294967296 then(if x9=0 then(none)else(gl1 x2 x8 x9 x10 x14 (IntKind.u64.wrap (x15-1)) (IntKind.u64.wrap ((IntKind.u64.wrap ((IntKind.u64.wrap ((IntKind.u64.wrap (x11*4294967296))+x13))-(IntKind.u64.wrap ((IntKind.u64.wrap (x15-1))*x2))))-(IntKind.u64.wrap ((IntKind.u64.wrap (Int.tdiv (IntKind.u64.wrap ((IntKind.u64.wrap ((IntKind.u64.wrap (x11*4294967296))+x13))-(IntKind.u64.wrap ((IntKind.u64.wrap (x15-1))*x2)))) x9))*x9)))) (IntKind.u64.wrap ((IntKind.u64.wrap ((IntKind.u64.wrap (x11*4294967296))+x13))-(IntKind.u64.wrap ((IntKind.u64.wrap (x15-1))*x2)))) (IntKind.u64.wrap (Int.tdiv (IntKind.u64.wrap ((IntKind.u64.wrap ((IntKind.u64.wrap (x11*4294967296))+x13))-(IntKind.u64.wrap ((IntKind.u64.wrap (x15-1))*x2)))) x9))))else(gl0 x2 x8 x9 x10 x11 x13 x14 (IntKind.u64.wrap (x15-1)) (IntKind.u64.wrap (x16+x9))))else(if x9=0 then(none)else(gl1 x2 x8 x9 x10 x14 x15 (IntKind.u64.wrap ((IntKind.u64.wrap ((IntKind.u64.wrap ((IntKind.u64.wrap (x11*4294967296))+x13))-(IntKind.u64.wrap (x15*x2))))-(IntKind.u64.wrap ((IntKind.u64.wrap (Int.tdiv (IntKind.u64.wrap ((IntKind.u64.wrap ((IntKind.u64.wrap (x11*4294967296))+x13))-(IntKind.u64.wrap (x15*x2)))) x9))*x9)))) (IntKind.u64.wrap ((IntKind.u64.wrap ((IntKind.u64.wrap (x11*4294967296))+x13))-(IntKind.u64.wrap (x15*x2)))) (IntKind.u64.wrap (Int.tdiv (IntKind.u64.wrap ((IntKind.u64.wrap ((IntKind.u64.wrap (x11*4294967296))+x13))-(IntKind.u64.wrap (x15*x2)))) x9)))))
theorem F2f (s0:C3 A4X.ask.bl) (s:C2h.T):A4X.po E0 (B7p c278) (B7A gl0 gl1) s0 0 (C2h.mk' s)=C5w gl0 gl1 s.1.1 s.1.2.1 s.1.2.2.1 s.1.2.2.2.1 s.1.2.2.2.2.1 s.1.2.2.2.2.2.1 s.1.2.2.2.2.2.2.1 s.1.2.2.2.2.2.2.2.1 s.1.2.2.2.2.2.2.2.2.1:=by kernel_rfl
noncomputable def C8L (x2:Int) (x8:Int) (x9:Int) (x10:Int) (x14:Int) (x15:Int) (x16:Int) (x17:Int) (x18:Int):Option W3:=if x18≥4294967296 then(if IntKind.u64.wrap (x16+x9)≥4294967296 then(if 0≤x8 then(some (IntKind.u64.wrap ((IntKind.u64.wrap (x15*4294967296))+(IntKind.u64.wrap (x18-1))),shr .u64 (IntKind.u64.wrap ((IntKind.u64.wrap ((IntKind.u64.wrap (x17*4294967296))+x14))-(IntKind.u64.wrap ((IntKind.u64.wrap (x18-1))*x2)))) x8))else(none))else(gl1 x2 x8 x9 x10 x14 x15 (IntKind.u64.wrap (x16+x9)) x17 (IntKind.u64.wrap (x18-1))))else(if IntKind.u64.wrap (x18*x10)>IntKind.u64.wrap ((IntKind.u64.wrap (4294967296*x16))+x14)then(if IntKind.u64.wrap (x16+x9)≥4294967296 then(if 0≤x8 then(some (IntKind.u64.wrap ((IntKind.u64.wrap (x15*4294967296))+(IntKind.u64.wrap (x18-1))),shr .u64 (IntKind.u64.wrap ((IntKind.u64.wrap ((IntKind.u64.wrap (x17*4294967296))+x14))-(IntKind.u64.wrap ((IntKind.u64.wrap (x18-1))*x2)))) x8))else(none))else(gl1 x2 x8 x9 x10 x14 x15 (IntKind.u64.wrap (x16+x9)) x17 (IntKind.u64.wrap (x18-1))))else(if 0≤x8 then(some (IntKind.u64.wrap ((IntKind.u64.wrap (x15*4294967296))+x18),shr .u64 (IntKind.u64.wrap ((IntKind.u64.wrap ((IntKind.u64.wrap (x17*4294967296))+x14))-(IntKind.u64.wrap (x18*x2)))) x8))else(none)))
theorem D6m (s0:C3 A4X.ask.bl) (s:C5L.T):A4X.po E0 (B7p c278) (B7A gl0 gl1) s0 1 (C5L.mk' s)=C8L gl1 s.1.1 s.1.2.1 s.1.2.2.1 s.1.2.2.2.1 s.1.2.2.2.2.1 s.1.2.2.2.2.2.1 s.1.2.2.2.2.2.2.1 s.1.2.2.2.2.2.2.2.1 s.1.2.2.2.2.2.2.2.2.1:=by kernel_rfl
noncomputable def C0j (x0:Int) (x1:Int) (x2:Int):Option W3:=if x2=0 then(none)else(if x2≤x0 then(none)else(if x0=0 then(if x2=0 then(none)else(if x2=0 then(none)else(some (IntKind.u64.wrap (Int.tdiv x1 x2),Int.tmod x1 x2))))else((c278 x2).bind fun r1=>(if 0≤IntKind.u64.wrap (r1)then(if(0:Int)≤32 then(if 0≤IntKind.u64.wrap (r1)then(if 0≤IntKind.u64.wrap (64-(IntKind.u64.wrap (r1)))then(if 0≤IntKind.u64.wrap (r1)then(if(0:Int)≤32 then(if(shl .u64 x2 (IntKind.u64.wrap (r1)))/4294967296=0 then(none)else(gl0 (shl .u64 x2 (IntKind.u64.wrap (r1))) (IntKind.u64.wrap (r1)) ((shl .u64 x2 (IntKind.u64.wrap (r1)))/4294967296) (Go.bits .and .u64 (shl .u64 x2 (IntKind.u64.wrap (r1))) 4294967295) (Go.bits .or .u64 (shl .u64 x0 (IntKind.u64.wrap (r1))) (shr .u64 x1 (IntKind.u64.wrap (64-(IntKind.u64.wrap (r1)))))) ((shl .u64 x1 (IntKind.u64.wrap (r1)))/4294967296) (Go.bits .and .u64 (shl .u64 x1 (IntKind.u64.wrap (r1))) 4294967295) (IntKind.u64.wrap (Int.tdiv (Go.bits .or .u64 (shl .u64 x0 (IntKind.u64.wrap (r1))) (shr .u64 x1 (IntKind.u64.wrap (64-(IntKind.u64.wrap (r1)))))) ((shl .u64 x2 (IntKind.u64.wrap (r1)))/4294967296))) (IntKind.u64.wrap ((Go.bits .or .u64 (shl .u64 x0 (IntKind.u64.wrap (r1))) (shr .u64 x1 (IntKind.u64.wrap (64-(IntKind.u64.wrap (r1))))))-(IntKind.u64.wrap ((IntKind.u64.wrap (Int.tdiv (Go.bits .or .u64 (shl .u64 x0 (IntKind.u64.wrap (r1))) (shr .u64 x1 (IntKind.u64.wrap (64-(IntKind.u64.wrap (r1)))))) ((shl .u64 x2 (IntKind.u64.wrap (r1)))/4294967296)))*((shl .u64 x2 (IntKind.u64.wrap (r1)))/4294967296)))))))else(none))else(none))else(none))else(none))else(none))else(none)))))
theorem E1Y (s:A4X.ask.T):A4X.ev E0 (B7p c278) (B7A gl0 gl1) s=C0j gl0 c278 s.1.1 s.1.2.1 s.1.2.2.1:=by kernel_rfl
end
noncomputable def C0e:Sk:=⟨[(1, .d (.it .i64)),(5, .f (.a (.ref 5))),(12, .d (.li (.it .u64))),(13, .d (.it .i64)),(14, .d (.it .i64))],[(5, .own (.it .u64) true)]⟩
noncomputable def C1q (gl0:Int→(List Int)→Int→Int→(List Int)→Option A2U):List (C6 A2U):=[⟨3,C0e,fun s=>gl0 s.1.1 s.1.2.1 s.1.2.2.1 s.1.2.2.2.1 s.2.1⟩]
section
variable (gl0:Int→(List Int)→Int→Int→(List Int)→Option A2U)
noncomputable def C6y (x1:Int) (x12:(List Int)) (x13:Int) (x14:Int) (x5:(List Int)):Option A2U:=if x14<x13 then(if 0≤x14 then(if x14<(x12.length:Int)then(if 0≤x14 then(if x14<(x5.length:Int)then(if 0≤x1 then(if 0≤x14 then(if x14<(x5.length:Int)then(if x1>0 then(if 0≤wrap64 (64-x1)then(if 0≤wrap64 (x14+1)then(if wrap64 (x14+1)<((x5.set (x14:Int).toNat (Go.bits .or .u64 (rd x5 x14) (shl .u64 (rd x12 x14) x1))).length:Int)then(gl0 x1 x12 x13 (wrap64 (x14+1)) ((x5.set (x14:Int).toNat (Go.bits .or .u64 (rd x5 x14) (shl .u64 (rd x12 x14) x1))).set (wrap64 (x14+1):Int).toNat (shr .u64 (rd x12 x14) (wrap64 (64-x1)))))else(none))else(none))else(none))else(gl0 x1 x12 x13 (wrap64 (x14+1)) (x5.set (x14:Int).toNat (Go.bits .or .u64 (rd x5 x14) (shl .u64 (rd x12 x14) x1)))))else(none))else(none))else(none))else(none))else(none))else(none))else(none))else(some x5)
theorem E6x (s0:C3 A7w.ask.bl) (s:C0e.T):A7w.po E0 [] (C1q gl0) s0 0 (C0e.mk' s)=C6y gl0 s.1.1 s.1.2.1 s.1.2.2.1 s.1.2.2.2.1 s.2.1:=by kernel_rfl
noncomputable def B8d (x0:(List Int)) (x1:Int):Option A2U:=if 0≤wrap64 ((x0.length:Int)+1)then(if wrap64 ((x0.length:Int)+1)≤wrap64 ((x0.length:Int)+1)then(if(wrap64 ((x0.length:Int)+1):Int).toNat≤35184372088832 then(gl0 x1 x0 (x0.length:Int) 0 (List.replicate (wrap64 ((x0.length:Int)+1):Int).toNat (0:Int)))else(none))else(none))else(none)
theorem E2D (s:A7w.ask.T):A7w.ev E0 [] (C1q gl0) s=B8d gl0 s.1.1 s.1.2.1:=by kernel_rfl
end
noncomputable def C3v (x0:Int) (x1:Int):Option A4x:=if(0:Int)≤32 then(if(0:Int)≤32 then(if(0:Int)≤32 then(if(0:Int)≤32 then(if(0:Int)≤32 then(some (IntKind.u64.wrap ((IntKind.u64.wrap ((IntKind.u64.wrap ((x0/4294967296)*(x1/4294967296)))+((IntKind.u64.wrap ((IntKind.u64.wrap ((x0/4294967296)*(Go.bits .and .u64 x1 4294967295)))+((IntKind.u64.wrap ((Go.bits .and .u64 x0 4294967295)*(Go.bits .and .u64 x1 4294967295)))/4294967296)))/4294967296)))+((IntKind.u64.wrap ((Go.bits .and .u64 (IntKind.u64.wrap ((IntKind.u64.wrap ((x0/4294967296)*(Go.bits .and .u64 x1 4294967295)))+((IntKind.u64.wrap ((Go.bits .and .u64 x0 4294967295)*(Go.bits .and .u64 x1 4294967295)))/4294967296))) 4294967295)+(IntKind.u64.wrap ((Go.bits .and .u64 x0 4294967295)*(x1/4294967296)))))/4294967296)),IntKind.u64.wrap (x0*x1)))else(none))else(none))else(none))else(none))else(none)
theorem E7B (s:B4j.ask.T):B4j.ev E0 [] [] s=C3v s.1.1 s.1.2.1:=by kernel_rfl
noncomputable def C7J:Sk:=⟨[(0, .f (.a (.ref 2000))),(1, .d (.li (.it .u64))),(5, .d (.it .i64)),(6, .d (.it .u64)),(7, .d (.it .u64)),(8, .d (.it .u64))],[(2000, .own (.it .u64) false)]⟩
noncomputable def C6M:Sk:=⟨[(0, .f (.a (.ref 2000))),(1, .d (.li (.it .u64))),(5, .d (.it .i64)),(6, .d (.it .u64)),(11, .d (.it .u64)),(12, .d (.it .u64)),(104, .d (.it .i64)),(105, .d (.it .i64))],[(2000, .own (.it .u64) false)]⟩
noncomputable def C1f:Sk:=⟨[(0, .f (.a (.ref 2000))),(1, .d (.li (.it .u64))),(5, .d (.it .i64)),(6, .d (.it .u64)),(17, .d (.it .u64)),(156, .d (.it .i64)),(157, .d (.it .i64))],[(2000, .own (.it .u64) false)]⟩
noncomputable def B2M (gl0:(List Int)→Int→Int→Int→Int→(List Int)→Option T4) (gl1:(List Int)→Int→Int→Int→Int→Int→Int→(List Int)→Option T4) (gl2:(List Int)→Int→Int→Int→Int→Int→(List Int)→Option T4):List (C6 T4):=[⟨8,C7J,fun s=>gl0 s.1.1 s.1.2.1 s.1.2.2.1 s.1.2.2.2.1 s.1.2.2.2.2.1 s.2.1⟩,⟨15,C6M,fun s=>gl1 s.1.1 s.1.2.1 s.1.2.2.1 s.1.2.2.2.1 s.1.2.2.2.2.1 s.1.2.2.2.2.2.1 s.1.2.2.2.2.2.2.1 s.2.1⟩,⟨28,C1f,fun s=>gl2 s.1.1 s.1.2.1 s.1.2.2.1 s.1.2.2.2.1 s.1.2.2.2.2.1 s.1.2.2.2.2.2.1 s.2.1⟩]
noncomputable def B3J (c246:Int→Int→Option A4x) (c247:Int→Int→Int→Option A3X) (c248:Int→Int→Int→Option A7N) (c277:Int→Int→Int→Option W3):List FE:=[C4t c246,B7K c247,C3G c248,C7M c277]
section
variable (gl0:(List Int)→Int→Int→Int→Int→(List Int)→Option T4) (gl1:(List Int)→Int→Int→Int→Int→Int→Int→(List Int)→Option T4) (gl2:(List Int)→Int→Int→Int→Int→Int→(List Int)→Option T4) (c246:Int→Int→Option A4x) (c247:Int→Int→Int→Option A3X) (c248:Int→Int→Int→Option A7N) (c277:Int→Int→Int→Option W3)
noncomputable def C0i (x1:(List Int)) (x5:Int) (x6:Int) (x7:Int) (x8:Int) (y0:(List Int)):Option T4:=if x8=0 then(if 0≤wrap64 (x5-2)then(if wrap64 (x5-2)<(x1.length:Int)then((c246 x6 (rd x1 (wrap64 (x5-2)))).bind fun r1=>(if r1.1<x7 then(gl1 x1 x5 x6 0 0 x5 0 y0)else(if r1.1=x7 then(if 0≤wrap64 (x5-2)then(if wrap64 (x5-2)<(y0.length:Int)then(if r1.2≤rd y0 (wrap64 (x5-2))then(gl1 x1 x5 x6 0 0 x5 0 y0)else(if 0≤wrap64 (x5-1)then(if wrap64 (x5-1)<(x1.length:Int)then((c247 x7 (rd x1 (wrap64 (x5-1))) 0).bind fun r2=>(gl0 x1 x5 (IntKind.u64.wrap (x6-1)) r2.1 r2.2 y0))else(none))else(none)))else(none))else(none))else(if 0≤wrap64 (x5-1)then(if wrap64 (x5-1)<(x1.length:Int)then((c247 x7 (rd x1 (wrap64 (x5-1))) 0).bind fun r3=>(gl0 x1 x5 (IntKind.u64.wrap (x6-1)) r3.1 r3.2 y0))else(none))else(none)))))else(none))else(none))else(gl1 x1 x5 x6 0 0 x5 0 y0)
theorem E0P (s0:C3 A2b.ask.bl) (s:C7J.T):A2b.po E0 (B3J c246 c247 c248 c277) (B2M gl0 gl1 gl2) s0 0 (C7J.mk' s)=C0i gl0 gl1 c246 c247 s.1.1 s.1.2.1 s.1.2.2.1 s.1.2.2.2.1 s.1.2.2.2.2.1 s.2.1:=by kernel_rfl
noncomputable def C0B (x1:(List Int)) (x5:Int) (x6:Int) (x11:Int) (x12:Int) (x104:Int) (x105:Int) (y0:(List Int)):Option T4:=if x105<x104 then(if 0≤x105 then(if x105<(x1.length:Int)then((c246 x6 (rd x1 x105)).bind fun r1=>((c247 r1.2 x12 0).bind fun r2=>(if 0≤x105 then(if x105<(y0.length:Int)then((c248 (rd y0 x105) r2.1 x11).bind fun r3=>(if 0≤x105 then(if x105<(y0.length:Int)then(gl1 x1 x5 x6 r3.2 (IntKind.u64.wrap (r1.1+r2.2)) x104 (wrap64 (x105+1)) (y0.set (x105:Int).toNat r3.1))else(none))else(none)))else(none))else(none))))else(none))else(none))else(if 0≤x5 then(if x5<(y0.length:Int)then((c248 (rd y0 x5) x12 x11).bind fun r4=>(if 0≤x5 then(if x5<(y0.length:Int)then(if r4.2=0 then(some (x6,y0.set (x5:Int).toNat r4.1))else(gl2 x1 x5 x6 0 x5 0 (y0.set (x5:Int).toNat r4.1)))else(none))else(none)))else(none))else(none))
theorem E5r (s0:C3 A2b.ask.bl) (s:C6M.T):A2b.po E0 (B3J c246 c247 c248 c277) (B2M gl0 gl1 gl2) s0 1 (C6M.mk' s)=C0B gl1 gl2 c246 c247 c248 s.1.1 s.1.2.1 s.1.2.2.1 s.1.2.2.2.1 s.1.2.2.2.2.1 s.1.2.2.2.2.2.1 s.1.2.2.2.2.2.2.1 s.2.1:=by kernel_rfl
noncomputable def C7v (x1:(List Int)) (x5:Int) (x6:Int) (x17:Int) (x156:Int) (x157:Int) (y0:(List Int)):Option T4:=if x157<x156 then(if 0≤x157 then(if x157<(y0.length:Int)then(if 0≤x157 then(if x157<(x1.length:Int)then((c247 (rd y0 x157) (rd x1 x157) x17).bind fun r1=>(if 0≤x157 then(if x157<(y0.length:Int)then(gl2 x1 x5 x6 r1.2 x156 (wrap64 (x157+1)) (y0.set (x157:Int).toNat r1.1))else(none))else(none)))else(none))else(none))else(none))else(none))else(if 0≤x5 then(if x5<(y0.length:Int)then(if 0≤x5 then(if x5<(y0.length:Int)then(some (IntKind.u64.wrap (x6-1),y0.set (x5:Int).toNat (IntKind.u64.wrap ((rd y0 x5)+x17))))else(none))else(none))else(none))else(none))
theorem F1o (s0:C3 A2b.ask.bl) (s:C1f.T):A2b.po E0 (B3J c246 c247 c248 c277) (B2M gl0 gl1 gl2) s0 2 (C1f.mk' s)=C7v gl2 c247 s.1.1 s.1.2.1 s.1.2.2.1 s.1.2.2.2.1 s.1.2.2.2.2.1 s.1.2.2.2.2.2.1 s.2.1:=by kernel_rfl
noncomputable def C8D (x1:(List Int)) (y0:(List Int)):Option T4:=if 0≤(x1.length:Int)then(if(x1.length:Int)<(y0.length:Int)then(if 0≤wrap64 ((x1.length:Int)-1)then(if wrap64 ((x1.length:Int)-1)<(x1.length:Int)then(if rd y0 (x1.length:Int)≥rd x1 (wrap64 ((x1.length:Int)-1))then(if 0≤wrap64 ((x1.length:Int)-1)then(if wrap64 ((x1.length:Int)-1)<(y0.length:Int)then(if 0≤wrap64 ((x1.length:Int)-1)then(if wrap64 ((x1.length:Int)-1)<(x1.length:Int)then((c247 (rd y0 (wrap64 ((x1.length:Int)-1))) (rd x1 (wrap64 ((x1.length:Int)-1))) 0).bind fun r1=>(gl0 x1 (x1.length:Int) 18446744073709551615 r1.1 r1.2 y0))else(none))else(none))else(none))else(none))else(if 0≤(x1.length:Int)then(if(x1.length:Int)<(y0.length:Int)then(if 0≤wrap64 ((x1.length:Int)-1)then(if wrap64 ((x1.length:Int)-1)<(y0.length:Int)then(if 0≤wrap64 ((x1.length:Int)-1)then(if wrap64 ((x1.length:Int)-1)<(x1.length:Int)then((c277 (rd y0 (x1.length:Int)) (rd y0 (wrap64 ((x1.length:Int)-1))) (rd x1 (wrap64 ((x1.length:Int)-1)))).bind fun r2=>(gl0 x1 (x1.length:Int) r2.1 r2.2 0 y0))else(none))else(none))else(none))else(none))else(none))else(none)))else(none))else(none))else(none))else(none)
theorem E7L (s:A2b.ask.T):A2b.ev E0 (B3J c246 c247 c248 c277) (B2M gl0 gl1 gl2) s=C8D gl0 c247 c277 s.1.1 s.2.1:=by kernel_rfl
end
noncomputable def C5f:Sk:=⟨[(0, .d (.li (.it .u64))),(1, .d (.li (.it .u64))),(6, .f (.a (.ref 6))),(7, .d (.it .u64)),(8, .d (.it .i64))],[(6, .own (.it .u64) true)]⟩
noncomputable def C2U:Sk:=⟨[(9, .d (.it .i64)),(10, .d (.li (.it .u64))),(11, .f (.a (.ref 11))),(12, .d (.it .i64)),(13, .f (.a (.ref 13))),(14, .d (.it .i64))],[(11, .own (.it .u64) true),(13, .own (.it .u64) true)]⟩
noncomputable def C1r:Sk:=⟨[(9, .d (.it .i64)),(11, .f (.a (.ref 11))),(12, .d (.it .i64)),(13, .f (.a (.ref 13))),(96, .d (.it .i64)),(97, .d (.it .i64))],[(11, .own (.it .u64) true),(13, .own (.it .u64) true)]⟩
noncomputable def B2y (gl0:(List Int)→(List Int)→Int→Int→(List Int)→Option Q4) (gl1:Int→(List Int)→Int→Int→(List Int)→(List Int)→Option Q4) (gl2:Int→Int→Int→Int→(List Int)→(List Int)→Option Q4):List (C6 Q4):=[⟨7,C5f,fun s=>gl0 s.1.1 s.1.2.1 s.1.2.2.1 s.1.2.2.2.1 s.2.1⟩,⟨17,C2U,fun s=>gl1 s.1.1 s.1.2.1 s.1.2.2.1 s.1.2.2.2.1 s.2.1 s.2.2.1⟩,⟨21,C1r,fun s=>gl2 s.1.1 s.1.2.1 s.1.2.2.1 s.1.2.2.2.1 s.2.1 s.2.2.1⟩]
noncomputable def B3Z (c245:(List Int)→Option e9) (c276:(List Int)→(List Int)→Option A1e) (c277:Int→Int→Int→Option W3) (c278:Int→Option A4q) (c279:(List Int)→Int→Option A2U) (c280:(List Int)→(List Int)→Option T4):List FE:=[B5N c245,C9J c276,C7M c277,C0p c278,C8d c279,D5P c280]
section
variable (gl0:(List Int)→(List Int)→Int→Int→(List Int)→Option Q4) (gl1:Int→(List Int)→Int→Int→(List Int)→(List Int)→Option Q4) (gl2:Int→Int→Int→Int→(List Int)→(List Int)→Option Q4) (c245:(List Int)→Option e9) (c276:(List Int)→(List Int)→Option A1e) (c277:Int→Int→Int→Option W3) (c278:Int→Option A4q) (c279:(List Int)→Int→Option A2U) (c280:(List Int)→(List Int)→Option T4)
noncomputable def C5r (x0:(List Int)) (x1:(List Int)) (x7:Int) (x8:Int) (x6:(List Int)):Option Q4:=if x8≥0 then(if 0≤x8 then(if x8<(x0.length:Int)then(if(0:Int)≤0 then(if 0<(x1.length:Int)then((c277 x7 (rd x0 x8) (rd x1 0)).bind fun r1=>(if 0≤x8 then(if x8<(x6.length:Int)then(gl0 x0 x1 r1.2 (wrap64 (x8-1)) (x6.set (x8:Int).toNat r1.1))else(none))else(none)))else(none))else(none))else(none))else(none))else((c245 x6).bind fun r2=>((c245 ([x7]:List Int)).bind fun r3=>(some (r2.2.take (r2.1:Int).toNat,r3.2.take (r3.1:Int).toNat))))
theorem E6C (s0:C3 A2r.ask.bl) (s:C5f.T):A2r.po E0 (B3Z c245 c276 c277 c278 c279 c280) (B2y gl0 gl1 gl2) s0 0 (C5f.mk' s)=C5r gl0 c245 c277 s.1.1 s.1.2.1 s.1.2.2.1 s.1.2.2.2.1 s.2.1:=by kernel_rfl
noncomputable def C0y (x9:Int) (x10:(List Int)) (x12:Int) (x14:Int) (x11:(List Int)) (x13:(List Int)):Option Q4:=if x14≥0 then(if 0≤x14 then(if x14≤wrap64 ((wrap64 (x14+x12))+1)then(if wrap64 ((wrap64 (x14+x12))+1)≤(x11.length:Int)then(if(x11.length:Int)≤(x11.length:Int)then((c280 x10 (slice_ x11 x14 (wrap64 ((wrap64 (x14+x12))+1)))).bind fun r1=>(if 0≤x14 then(if x14<(x13.length:Int)then(gl1 x9 x10 x12 (wrap64 (x14-1)) (x11.take ((x14:Int).toNat)++r1.2++x11.drop ((wrap64 ((wrap64 (x14+x12))+1):Int).toNat)) (x13.set (x14:Int).toNat r1.1))else(none))else(none)))else(none))else(none))else(none))else(none))else(gl2 x9 x12 x12 0 x11 x13)
theorem F3G (s0:C3 A2r.ask.bl) (s:C2U.T):A2r.po E0 (B3Z c245 c276 c277 c278 c279 c280) (B2y gl0 gl1 gl2) s0 1 (C2U.mk' s)=C0y gl1 gl2 c280 s.1.1 s.1.2.1 s.1.2.2.1 s.1.2.2.2.1 s.2.1 s.2.2.1:=by kernel_rfl
noncomputable def C6Z (x9:Int) (x12:Int) (x96:Int) (x97:Int) (x11:(List Int)) (x13:(List Int)):Option Q4:=if x97<x96 then(if 0≤x97 then(if x97<(x11.length:Int)then(if 0≤x9 then(if 0≤x97 then(if x97<(x11.length:Int)then(if x9>0 then(if wrap64 (x97+1)<((x11.set (x97:Int).toNat (shr .u64 (rd x11 x97) x9)).length:Int)then(if 0≤x97 then(if x97<((x11.set (x97:Int).toNat (shr .u64 (rd x11 x97) x9)).length:Int)then(if 0≤wrap64 (x97+1)then(if wrap64 (x97+1)<((x11.set (x97:Int).toNat (shr .u64 (rd x11 x97) x9)).length:Int)then(if 0≤wrap64 (64-x9)then(if 0≤x97 then(if x97<((x11.set (x97:Int).toNat (shr .u64 (rd x11 x97) x9)).length:Int)then(gl2 x9 x12 x96 (wrap64 (x97+1)) ((x11.set (x97:Int).toNat (shr .u64 (rd x11 x97) x9)).set (x97:Int).toNat (Go.bits .or .u64 (rd (x11.set (x97:Int).toNat (shr .u64 (rd x11 x97) x9)) x97) (shl .u64 (rd (x11.set (x97:Int).toNat (shr .u64 (rd x11 x97) x9)) (wrap64 (x97+1))) (wrap64 (64-x9))))) x13)else(none))else(none))else(none))else(none))else(none))else(none))else(none))else(gl2 x9 x12 x96 (wrap64 (x97+1)) (x11.set (x97:Int).toNat (shr .u64 (rd x11 x97) x9)) x13))else(gl2 x9 x12 x96 (wrap64 (x97+1)) (x11.set (x97:Int).toNat (shr .u64 (rd x11 x97) x9)) x13))else(none))else(none))else(none))else(none))else(none))else((c245 x13).bind fun r1=>(if(0:Int)≤0 then(if 0≤x12 then(if x12≤(x11.length:Int)then(if(x11.length:Int)≤(x11.length:Int)then((c245 (slice_ x11 0 x12)).bind fun r2=>(some (r1.2.take (r1.1:Int).toNat,slice_ (x11.take ((0:Int).toNat)++r2.2++x11.drop ((x12:Int).toNat)) 0 (0+r2.1))))else(none))else(none))else(none))else(none)))
theorem E4o (s0:C3 A2r.ask.bl) (s:C1r.T):A2r.po E0 (B3Z c245 c276 c277 c278 c279 c280) (B2y gl0 gl1 gl2) s0 2 (C1r.mk' s)=C6Z gl2 c245 s.1.1 s.1.2.1 s.1.2.2.1 s.1.2.2.2.1 s.2.1 s.2.2.1:=by kernel_rfl
noncomputable def C2M (x0:(List Int)) (x1:(List Int)):Option Q4:=(c276 x0 x1).bind fun r1=>(if r1<0 then(some (([]:List Int),x0))else(if(x1.length:Int)=1 then(if 0≤(x0.length:Int)then(if(x0.length:Int)≤(x0.length:Int)then(if((x0.length:Int):Int).toNat≤35184372088832 then(gl0 x0 x1 0 (wrap64 ((x0.length:Int)-1)) (List.replicate ((x0.length:Int):Int).toNat (0:Int)))else(none))else(none))else(none))else(if 0≤wrap64 ((x1.length:Int)-1)then(if wrap64 ((x1.length:Int)-1)<(x1.length:Int)then((c278 (rd x1 (wrap64 ((x1.length:Int)-1)))).bind fun r2=>((c279 x1 r2).bind fun r3=>((c245 r3).bind fun r4=>((c279 x0 r2).bind fun r5=>(if 0≤wrap64 ((wrap64 ((x0.length:Int)-((r4.2.take (r4.1:Int).toNat).length:Int)))+1)then(if wrap64 ((wrap64 ((x0.length:Int)-((r4.2.take (r4.1:Int).toNat).length:Int)))+1)≤wrap64 ((wrap64 ((x0.length:Int)-((r4.2.take (r4.1:Int).toNat).length:Int)))+1)then(if(wrap64 ((wrap64 ((x0.length:Int)-((r4.2.take (r4.1:Int).toNat).length:Int)))+1):Int).toNat≤35184372088832 then(gl1 r2 (r4.2.take (r4.1:Int).toNat) ((r4.2.take (r4.1:Int).toNat).length:Int) (wrap64 ((x0.length:Int)-((r4.2.take (r4.1:Int).toNat).length:Int))) r5 (List.replicate (wrap64 ((wrap64 ((x0.length:Int)-((r4.2.take (r4.1:Int).toNat).length:Int)))+1):Int).toNat (0:Int)))else(none))else(none))else(none))))))else(none))else(none))))
theorem D6n (s:A2r.ask.T):A2r.ev E0 (B3Z c245 c276 c277 c278 c279 c280) (B2y gl0 gl1 gl2) s=C2M gl0 gl1 c245 c276 c278 c279 s.1.1 s.1.2.1:=by kernel_rfl
end
noncomputable def C6z:Sk:=⟨[(5, .d (.li (.it .u64))),(6, .d (.li (.it .u64)))],[]⟩
noncomputable def C6f (gl0:(List Int)→(List Int)→Option u9):List (C6 u9):=[⟨2,C6z,fun s=>gl0 s.1.1 s.1.2.1⟩]
noncomputable def C4O (c223:(List Int)→Option J3) (c225:ByteArray→Option R9) (c244:(List Int)→(List Int)→Option Q4):List FE:=[A5S c223,A5n c225,B9C c244]
section
variable (gl0:(List Int)→(List Int)→Option u9) (c223:(List Int)→Option J3) (c225:ByteArray→Option R9) (c244:(List Int)→(List Int)→Option Q4)
noncomputable def C2X (x5:(List Int)) (x6:(List Int)):Option u9:=if(x6.length:Int)>0 then((c244 x5 x6).bind fun r1=>(gl0 x6 r1.2))else((c223 x5).bind fun r2=>(some r2))
theorem F1U (s0:C3 A8T.ask.bl) (s:C6z.T):A8T.po E0 (C4O c223 c225 c244) (C6f gl0) s0 0 (C6z.mk' s)=C2X gl0 c223 c244 s.1.1 s.1.2.1:=by kernel_rfl
noncomputable def C1S (x0:ByteArray) (x1:ByteArray):Option u9:=(c225 x0).bind fun r1=>((c225 x1).bind fun r2=>(gl0 r1 r2))
theorem E5x (s:A8T.ask.T):A8T.ev E0 (C4O c223 c225 c244) (C6f gl0) s=C1S gl0 c225 s.1.1 s.1.2.1:=by kernel_rfl
end
noncomputable def D5A (c213:TI→Option B0D) (c214:ByteArray→Option A4j) (c215:ByteArray→ByteArray→Option u9):List FE:=[C9X c213,C1J c214,C7l c215]
section
variable (c213:TI→Option B0D) (c214:ByteArray→Option A4j) (c215:ByteArray→ByteArray→Option u9)
noncomputable def A2T (x0:TQ):Option B0Q:=(c213 x0.1).bind fun r1=>((c214 x0.2).bind fun r2=>(if r1=1 then(some 1)else(if r2=1 then(some 1)else(B2 ((E6 x0.2 (⟨#[]⟩:ByteArray))) (some 1) (if r1≠0 then(some r1)else(if r2≠0 then(some r2)else(B2 ((!(E6 x0.2 (⟨#[1]⟩:ByteArray)))) ((c215 x0.1.2 x0.2).bind fun r3=>(B2 ((!(E6 r3 (⟨#[1]⟩:ByteArray)))) (some 1) (some 0))) (some 0))))))))
theorem E2N (s:B5s.ask.T):B5s.ev E0 (D5A c213 c214 c215) [] s=A2T c213 c214 c215 s.1.1:=by kernel_rfl
end
noncomputable def B9k:Sk:=⟨[(0, .d (.li (.ag (.pr (.ag (.pr .bo .st)) .st)))),(9, .d (.li (.ag (.pr (.ag (.pr .bo .st)) .st)))),(10, .d (.it .i64)),(11, .d (.it .i64))],[]⟩
noncomputable def C2a (gl0:(List TQ)→(List TQ)→Int→Int→Option f7):List (C6 f7):=[⟨4,B9k,fun s=>gl0 s.1.1 s.1.2.1 s.1.2.2.1 s.1.2.2.2.1⟩]
noncomputable def C1t (c152:TQ→Option A0W) (c172:TQ→Option B0Q):List FE:=[B2e c152,D5D c172]
section
variable (gl0:(List TQ)→(List TQ)→Int→Int→Option f7) (c152:TQ→Option A0W) (c172:TQ→Option B0Q)
noncomputable def A6A (x0:(List TQ)) (x9:(List TQ)) (x10:Int) (x11:Int):Option f7:=if x11<x10 then(if 0≤x11 then(if x11<(x9.length:Int)then((c172 (C2 ((false,(⟨#[]⟩:ByteArray)),(⟨#[]⟩:ByteArray)) x9 x11)).bind fun r1=>(if r1≠0 then(some r1)else(gl0 x0 x9 x10 (wrap64 (x11+1)))))else(none))else(none))else(if(x0.length:Int)>0 then(if 0≤wrap64 ((x0.length:Int)-1)then(if wrap64 ((x0.length:Int)-1)<(x0.length:Int)then((c152 (C2 ((false,(⟨#[]⟩:ByteArray)),(⟨#[]⟩:ByteArray)) x0 (wrap64 ((x0.length:Int)-1)))).bind fun r2=>(B2 (r2) (some 1) (some 0)))else(none))else(none))else(some 0))
theorem E4S (s0:C3 A9K.ask.bl) (s:B9k.T):A9K.po E0 (C1t c152 c172) (C2a gl0) s0 0 (B9k.mk' s)=A6A gl0 c152 c172 s.1.1 s.1.2.1 s.1.2.2.1 s.1.2.2.2.1:=by kernel_rfl
noncomputable def B3a (x0:(List TQ)):Option f7:=if(x0.length:Int)>65 then(some 4)else(gl0 x0 x0 (x0.length:Int) 0)
theorem F2m (s:A9K.ask.T):A9K.ev E0 (C1t c152 c172) (C2a gl0) s=B3a gl0 s.1.1:=by kernel_rfl
end
noncomputable def C0H (x0:TQ):Option A8d:=some (E6 x0.2 (⟨#[1]⟩:ByteArray))
theorem E4G (s:B4O.ask.T):B4O.ev E0 [] [] s=C0H s.1.1:=by kernel_rfl
noncomputable def D1f (c171:TQ→Option A8d):List FE:=[D1Q c171]
section
variable (c171:TQ→Option A8d)
noncomputable def C7F (x0:TQ):Option B0e:=(c171 x0).bind fun r1=>(some (!r1))
theorem E3d (s:B3u.ask.T):B3u.ev E0 (D1f c171) [] s=C7F c171 s.1.1:=by kernel_rfl
end
noncomputable def C3N:Sk:=⟨[(0, .d (.li (.ag (.pr (.ag (.pr .bo .st)) .st)))),(1, .f (.cl 170 [])),(7, .d (.it .i64)),(8, .d (.it .i64))],[]⟩
noncomputable def C6q (gl0:(List TQ)→Int→Int→Option A2E):List (C6 A2E):=[⟨2,C3N,fun s=>gl0 s.1.1 s.1.2.1 s.1.2.2.1⟩]
noncomputable def B9e (c170:TQ→Option B0e):List FE:=[D5S c170]
section
variable (gl0:(List TQ)→Int→Int→Option A2E) (c170:TQ→Option B0e)
noncomputable def A6v (x0:(List TQ)) (x7:Int) (x8:Int):Option A2E:=if x8<x7 then(if 0≤x8 then(if x8<(x0.length:Int)then((c170 (C2 ((false,(⟨#[]⟩:ByteArray)),(⟨#[]⟩:ByteArray)) x0 x8)).bind fun r1=>(B2 (r1) (some x8) (gl0 x0 x7 (wrap64 (x8+1)))))else(none))else(none))else(some (-1))
theorem E4H (s0:C3 A9V.ask.bl) (s:C3N.T):A9V.po E0 (B9e c170) (C6q gl0) s0 0 (C3N.mk' s)=A6v gl0 c170 s.1.1 s.1.2.1 s.1.2.2.1:=by kernel_rfl
noncomputable def B3I (x0:(List TQ)):Option A2E:=gl0 x0 (x0.length:Int) 0
theorem F2s (s:A9V.ask.T):A9V.ev E0 (B9e c170) (C6q gl0) s=B3I gl0 s.1.1:=by kernel_rfl
end
noncomputable def D0J (c194Form:(List TQ)→Option A2E):List FE:=[C9o c194Form]
section
variable (c194Form:(List TQ)→Option A2E)
noncomputable def B9l (x0:(List TQ)):Option A8E:=(c194Form x0).bind fun r1=>(some (decide (r1≥0)))
theorem E6O (s:B3j.ask.T):B3j.ev E0 (D0J c194Form) [] s=B9l c194Form s.1.1:=by kernel_rfl
end
noncomputable def D2F (c89:Int→Option S5) (c120:(List TQ)→Option f7) (c153Form:(List TQ)→Option A8E):List FE:=[A4K c89,B6t c120,D0u c153Form]
section
variable (c89:Int→Option S5) (c120:(List TQ)→Option f7) (c153Form:(List TQ)→Option A8E)
noncomputable def B1i (x0:(List TQ)):Option A2w:=(c120 x0).bind fun r1=>(if r1≠0 then(some r1)else(if wrap64 ((x0.length:Int)-1)<1 then(some 1)else(if 0≤wrap64 ((x0.length:Int)-1)then(if wrap64 ((x0.length:Int)-1)<(x0.length:Int)then((c89 1).bind fun r2=>(B2 ((!((((((C2 ((false,(⟨#[]⟩:ByteArray)),(⟨#[]⟩:ByteArray)) x0 (wrap64 ((x0.length:Int)-1))).1).1)==r2.1.1)&&(E6 (((C2 ((false,(⟨#[]⟩:ByteArray)),(⟨#[]⟩:ByteArray)) x0 (wrap64 ((x0.length:Int)-1))).1).2) r2.1.2))&&(E6 ((C2 ((false,(⟨#[]⟩:ByteArray)),(⟨#[]⟩:ByteArray)) x0 (wrap64 ((x0.length:Int)-1))).2) r2.2)))) (some 1) ((c153Form x0).bind fun r3=>(B2 (r3) (some 1) (if wrap64 ((x0.length:Int)-1)>24 then(some 4)else(some 0))))))else(none))else(none))))
theorem E3U (s:B5I.ask.T):B5I.ev E0 (D2F c89 c120 c153Form) [] s=B1i c89 c120 c153Form s.1.1:=by kernel_rfl
end
noncomputable def D4N (c120:(List TQ)→Option f7):List FE:=[B6t c120]
section
variable (c120:(List TQ)→Option f7)
noncomputable def B1s (x0:(List TQ)) (x1:(List TQ)):Option A4P:=(c120 x1).bind fun r1=>(if r1≠0 then(some r1)else(if(x1.length:Int)≥(x0.length:Int)then(some 3)else(some 0)))
theorem E5w (s:B5i.ask.T):B5i.ev E0 (D4N c120) [] s=B1s c120 s.1.1 s.1.2.1:=by kernel_rfl
end
noncomputable def C1D:Sk:=⟨[(1, .d (.li (.li (.ag (.pr (.ag (.pr .bo .st)) .st))))),(2, .f (.a (.ptr 2 0 []))),(11, .d (.li (.li (.ag (.pr (.ag (.pr .bo .st)) .st))))),(12, .d (.it .i64)),(13, .d (.it .i64))],[(2, .cell (.ag (.li (.ag (.pr (.ag (.pr .bo .st)) .st)))) true)]⟩
noncomputable def C4p (gl0:(List (List TQ))→(List (List TQ))→Int→Int→(List TQ)→Option A0N):List (C6 A0N):=[⟨4,C1D,fun s=>gl0 s.1.1 s.1.2.1 s.1.2.2.1 s.1.2.2.2.1 s.2.1⟩]
noncomputable def C4L (c124:(List TQ)→(List TQ)→Option A4P):List FE:=[C2b c124]
section
variable (gl0:(List (List TQ))→(List (List TQ))→Int→Int→(List TQ)→Option A0N) (c124:(List TQ)→(List TQ)→Option A4P)
noncomputable def A7B (x1:(List (List TQ))) (x11:(List (List TQ))) (x12:Int) (x13:Int) (x2:(List TQ)):Option A0N:=if x13<x12 then(if 0≤x13 then(if x13<(x11.length:Int)then((c124 x2 (C2 ([]:List TQ) x11 x13)).bind fun r1=>(if r1≠0 then(some r1)else(gl0 x1 x11 x12 (wrap64 (x13+1)) x2)))else(none))else(none))else(if(x1.length:Int)>0 then(if 0≤wrap64 ((x1.length:Int)-1)then(if wrap64 ((x1.length:Int)-1)<(x1.length:Int)then(if((C2 ([]:List TQ) x1 (wrap64 ((x1.length:Int)-1))).length:Int)=0 then(some 1)else(some 0))else(none))else(none))else(some 0))
theorem E0V (s0:C3 A9B.ask.bl) (s:C1D.T):A9B.po E0 (C4L c124) (C4p gl0) s0 0 (C1D.mk' s)=A7B gl0 c124 s.1.1 s.1.2.1 s.1.2.2.1 s.1.2.2.2.1 s.2.1:=by kernel_rfl
noncomputable def B2H (x0:(List TQ)) (x1:(List (List TQ))):Option A0N:=if(x1.length:Int)>65 then(some 4)else(gl0 x1 x1 (x1.length:Int) 0 x0)
theorem E4J (s:A9B.ask.T):A9B.ev E0 (C4L c124) (C4p gl0) s=B2H gl0 s.1.1 s.1.2.1:=by kernel_rfl
end
noncomputable def C7E:Sk:=⟨[(2, .f (.a (.ptr 2 0 []))),(14, .d (.li (.li (.li (.ag (.pr (.ag (.pr .bo .st)) .st)))))),(15, .d (.it .i64)),(16, .d (.it .i64))],[(2, .cell (.ag (.li (.ag (.pr (.ag (.pr .bo .st)) .st)))) true)]⟩
noncomputable def C0c (gl0:(List (List (List TQ)))→Int→Int→(List TQ)→Option T9):List (C6 T9):=[⟨5,C7E,fun s=>gl0 s.1.1 s.1.2.1 s.1.2.2.1 s.2.1⟩]
noncomputable def C3o (c119:(List TQ)→Option A2w) (c138:(List TQ)→(List (List TQ))→Option A0N):List FE:=[B7j c119,C1V c138]
section
variable (gl0:(List (List (List TQ)))→Int→Int→(List TQ)→Option T9) (c119:(List TQ)→Option A2w) (c138:(List TQ)→(List (List TQ))→Option A0N)
noncomputable def A6O (x14:(List (List (List TQ)))) (x15:Int) (x16:Int) (x2:(List TQ)):Option T9:=if x16<x15 then(if 0≤x16 then(if x16<(x14.length:Int)then((c138 x2 (C2 ([]:List (List TQ)) x14 x16)).bind fun r1=>(if r1≠0 then(some r1)else(gl0 x14 x15 (wrap64 (x16+1)) x2)))else(none))else(none))else(some 0)
theorem F1T (s0:C3 D83.ask.bl) (s:C7E.T):D83.po E0 (C3o c119 c138) (C0c gl0) s0 0 (C7E.mk' s)=A6O gl0 c138 s.1.1 s.1.2.1 s.1.2.2.1 s.2.1:=by kernel_rfl
noncomputable def B83 (x0:(List TQ)) (x1:(List (List (List TQ)))):Option T9:=(c119 x0).bind fun r1=>(if r1≠0 then(some r1)else(gl0 x1 (x1.length:Int) 0 x0))
theorem e83 (s:D83.ask.T):D83.ev E0 (C3o c119 c138) (C0c gl0) s=B83 gl0 c119 s.1.1 s.1.2.1:=by kernel_rfl
end
noncomputable def C5z:Sk:=⟨[(1, .d (.li (.it .u64))),(5, .f (.a (.ref 5))),(20, .d (.li (.it .u64))),(21, .d (.it .i64)),(22, .d (.it .i64))],[(5, .own (.it .u64) true)]⟩
noncomputable def C5k:Sk:=⟨[(1, .d (.li (.it .u64))),(5, .f (.a (.ref 5))),(6, .d (.it .i64)),(7, .d (.it .u64)),(8, .d (.it .u64)),(20, .d (.li (.it .u64))),(21, .d (.it .i64)),(22, .d (.it .i64)),(27, .d (.li (.it .u64))),(28, .d (.it .i64)),(29, .d (.it .i64))],[(5, .own (.it .u64) true)]⟩
noncomputable def B6A (gl0:(List Int)→(List Int)→Int→Int→(List Int)→Option X3) (gl1:(List Int)→Int→Int→Int→(List Int)→Int→Int→(List Int)→Int→Int→(List Int)→Option X3):List (C6 X3):=[⟨3,C5z,fun s=>gl0 s.1.1 s.1.2.1 s.1.2.2.1 s.1.2.2.2.1 s.2.1⟩,⟨7,C5k,fun s=>gl1 s.1.1 s.1.2.1 s.1.2.2.1 s.1.2.2.2.1 s.1.2.2.2.2.1 s.1.2.2.2.2.2.1 s.1.2.2.2.2.2.2.1 s.1.2.2.2.2.2.2.2.1 s.1.2.2.2.2.2.2.2.2.1 s.1.2.2.2.2.2.2.2.2.2.1 s.2.1⟩]
noncomputable def B7V (c245:(List Int)→Option e9) (c246:Int→Int→Option A4x) (c247:Int→Int→Int→Option A3X):List FE:=[B5N c245,C4t c246,B7K c247]
section
variable (gl0:(List Int)→(List Int)→Int→Int→(List Int)→Option X3) (gl1:(List Int)→Int→Int→Int→(List Int)→Int→Int→(List Int)→Int→Int→(List Int)→Option X3) (c245:(List Int)→Option e9) (c246:Int→Int→Option A4x) (c247:Int→Int→Int→Option A3X)
noncomputable def C8B (x1:(List Int)) (x20:(List Int)) (x21:Int) (x22:Int) (x5:(List Int)):Option X3:=if x22<x21 then(if 0≤x22 then(if x22<(x20.length:Int)then(gl1 x1 x22 (rd x20 x22) 0 x20 x21 x22 x1 (x1.length:Int) 0 x5)else(none))else(none))else((c245 x5).bind fun r1=>(some (r1.2.take (r1.1:Int).toNat)))
theorem F2L (s0:C3 A4T.ask.bl) (s:C5z.T):A4T.po E0 (B7V c245 c246 c247) (B6A gl0 gl1) s0 0 (C5z.mk' s)=C8B gl1 c245 s.1.1 s.1.2.1 s.1.2.2.1 s.1.2.2.2.1 s.2.1:=by kernel_rfl
noncomputable def C4m (x1:(List Int)) (x6:Int) (x7:Int) (x8:Int) (x20:(List Int)) (x21:Int) (x22:Int) (x27:(List Int)) (x28:Int) (x29:Int) (x5:(List Int)):Option X3:=if x29<x28 then(if 0≤x29 then(if x29<(x27.length:Int)then((c246 x7 (rd x27 x29)).bind fun r1=>(if 0≤wrap64 (x6+x29)then(if wrap64 (x6+x29)<(x5.length:Int)then((c247 r1.2 (rd x5 (wrap64 (x6+x29))) 0).bind fun r2=>((c247 r2.1 x8 0).bind fun r3=>(if 0≤wrap64 (x6+x29)then(if wrap64 (x6+x29)<(x5.length:Int)then(gl1 x1 x6 x7 (IntKind.u64.wrap ((IntKind.u64.wrap (r1.1+r2.2))+r3.2)) x20 x21 x22 x27 x28 (wrap64 (x29+1)) (x5.set (wrap64 (x6+x29):Int).toNat r3.1))else(none))else(none))))else(none))else(none)))else(none))else(none))else(if 0≤wrap64 (x6+(x1.length:Int))then(if wrap64 (x6+(x1.length:Int))<(x5.length:Int)then(gl0 x1 x20 x21 (wrap64 (x22+1)) (x5.set (wrap64 (x6+(x1.length:Int)):Int).toNat x8))else(none))else(none))
theorem E0G (s0:C3 A4T.ask.bl) (s:C5k.T):A4T.po E0 (B7V c245 c246 c247) (B6A gl0 gl1) s0 1 (C5k.mk' s)=C4m gl0 gl1 c246 c247 s.1.1 s.1.2.1 s.1.2.2.1 s.1.2.2.2.1 s.1.2.2.2.2.1 s.1.2.2.2.2.2.1 s.1.2.2.2.2.2.2.1 s.1.2.2.2.2.2.2.2.1 s.1.2.2.2.2.2.2.2.2.1 s.1.2.2.2.2.2.2.2.2.2.1 s.2.1:=by kernel_rfl
noncomputable def B9a (x0:(List Int)) (x1:(List Int)):Option X3:=if 0≤wrap64 ((x0.length:Int)+(x1.length:Int))then(if wrap64 ((x0.length:Int)+(x1.length:Int))≤wrap64 ((x0.length:Int)+(x1.length:Int))then(if(wrap64 ((x0.length:Int)+(x1.length:Int)):Int).toNat≤35184372088832 then(gl0 x1 x0 (x0.length:Int) 0 (List.replicate (wrap64 ((x0.length:Int)+(x1.length:Int)):Int).toNat (0:Int)))else(none))else(none))else(none)
theorem F0j (s:A4T.ask.T):A4T.ev E0 (B7V c245 c246 c247) (B6A gl0 gl1) s=B9a gl0 s.1.1 s.1.2.1:=by kernel_rfl
end
noncomputable def D0w (c223:(List Int)→Option J3) (c224:(List Int)→(List Int)→Option X3) (c225:ByteArray→Option R9):List FE:=[A5S c223,B9z c224,A5n c225]
section
variable (c223:(List Int)→Option J3) (c224:(List Int)→(List Int)→Option X3) (c225:ByteArray→Option R9)
noncomputable def C5u (x0:ByteArray) (x1:ByteArray):Option A0g:=(c225 x0).bind fun r1=>((c225 x1).bind fun r2=>((c224 r1 r2).bind fun r3=>((c223 r3).bind fun r4=>(some r4))))
theorem F2X (s:B3k.ask.T):B3k.ev E0 (D0w c223 c224 c225) [] s=C5u c223 c224 c225 s.1.1 s.1.2.1:=by kernel_rfl
end
noncomputable def C3Q (x0:Bool) (x1:ByteArray):Option V3:=B2 (x0) (some ((!(E6 x1 (⟨#[]⟩:ByteArray))),x1)) (some (false,x1))
theorem D9H (s:B6H.ask.T):B6H.ev E0 [] [] s=C3Q s.1.1 s.1.2.1:=by kernel_rfl
noncomputable def D2U (c186:ByteArray→ByteArray→Option A0g) (c192:Bool→ByteArray→Option V3):List FE:=[B1c c186,A5N c192]
section
variable (c186:ByteArray→ByteArray→Option A0g) (c192:Bool→ByteArray→Option V3)
noncomputable def C6E (x0:TI) (x1:TI):Option A8z:=(c186 x0.2 x1.2).bind fun r1=>((c192 (!(x0.1==x1.1)) r1).bind fun r2=>(some (r2.1,r2.2)))
theorem D9e (s:B8L.ask.T):B8L.ev E0 (D2U c186 c192) [] s=C6E c186 c192 s.1.1 s.1.2.1:=by kernel_rfl
end
noncomputable def D5l (c223:(List Int)→Option J3) (c225:ByteArray→Option R9) (c244:(List Int)→(List Int)→Option Q4):List FE:=[A5S c223,A5n c225,B9C c244]
section
variable (c223:(List Int)→Option J3) (c225:ByteArray→Option R9) (c244:(List Int)→(List Int)→Option Q4)
noncomputable def C5D (x0:ByteArray) (x1:ByteArray):Option B0n:=(c225 x0).bind fun r1=>((c225 x1).bind fun r2=>((c244 r1 r2).bind fun r3=>((c223 r3.1).bind fun r4=>((c223 r3.2).bind fun r5=>(some (r4,r5))))))
theorem D9m (s:B3h.ask.T):B3h.ev E0 (D5l c223 c225 c244) [] s=C5D c223 c225 c244 s.1.1 s.1.2.1:=by kernel_rfl
end
noncomputable def C8b (c192:Bool→ByteArray→Option V3) (c215:ByteArray→ByteArray→Option u9) (c222:ByteArray→ByteArray→Option B0n):List FE:=[A5N c192,C7l c215,D4j c222]
section
variable (c192:Bool→ByteArray→Option V3) (c215:ByteArray→ByteArray→Option u9) (c222:ByteArray→ByteArray→Option B0n)
noncomputable def B1J (x0:TI) (x1:TI):Option A4r:=(c215 x0.2 x1.2).bind fun r1=>(B2 ((!(E6 r1 (⟨#[1]⟩:ByteArray)))) ((c222 x0.2 r1).bind fun r2=>((c222 x1.2 r1).bind fun r3=>((c192 (!(x0.1==x1.1)) r2.1).bind fun r4=>(some ((r4.1,r4.2),r3.1))))) ((c192 (!(x0.1==x1.1)) x0.2).bind fun r5=>(some ((r5.1,r5.2),x1.2))))
theorem E1J (s:B5T.ask.T):B5T.ev E0 (C8b c192 c215 c222) [] s=B1J c192 c215 c222 s.1.1 s.1.2.1:=by kernel_rfl
end
noncomputable def C9e (c149:TI→Option A2n) (c184:TI→TI→Option A8z) (c185:TI→TI→Option A4r) (c186:ByteArray→ByteArray→Option A0g):List FE:=[B5P c149,D0m c184,C4n c185,B1c c186]
section
variable (c149:TI→Option A2n) (c184:TI→TI→Option A8z) (c185:TI→TI→Option A4r) (c186:ByteArray→ByteArray→Option A0g)
noncomputable def B0w (x0:TQ) (x1:TQ):Option f9:=B2 ((E6 x0.2 (⟨#[1]⟩:ByteArray))) (B2 ((E6 x1.2 (⟨#[1]⟩:ByteArray))) ((c184 x0.1 x1.1).bind fun r1=>((c149 (r1.1,r1.2)).bind fun r2=>(some (r2.1,r2.2)))) ((c184 x0.1 x1.1).bind fun r3=>((c186 x0.2 x1.2).bind fun r4=>((c185 (r3.1,r3.2) (false,r4)).bind fun r5=>(some (r5.1,r5.2)))))) ((c184 x0.1 x1.1).bind fun r6=>((c186 x0.2 x1.2).bind fun r7=>((c185 (r6.1,r6.2) (false,r7)).bind fun r8=>(some (r8.1,r8.2)))))
theorem E3G (s:B3t.ask.T):B3t.ev E0 (C9e c149 c184 c185 c186) [] s=B0w c149 c184 c185 c186 s.1.1 s.1.2.1:=by kernel_rfl
end
noncomputable def C4F:Sk:=⟨[(1, .d (.it .i64)),(5, .d (.li (.it .u64))),(6, .d (.li (.it .u64)))],[]⟩
noncomputable def C2n (gl0:Int→(List Int)→(List Int)→Option l5):List (C6 l5):=[⟨2,C4F,fun s=>gl0 s.1.1 s.1.2.1 s.1.2.2.1⟩]
noncomputable def C5J (c223:(List Int)→Option J3) (c224:(List Int)→(List Int)→Option X3) (c225:ByteArray→Option R9):List FE:=[A5S c223,B9z c224,A5n c225]
section
variable (gl0:Int→(List Int)→(List Int)→Option l5) (c223:(List Int)→Option J3) (c224:(List Int)→(List Int)→Option X3) (c225:ByteArray→Option R9)
noncomputable def C7N (x1:Int) (x5:(List Int)) (x6:(List Int)):Option l5:=if x1>0 then(if Go.bits .and .i64 x1 1=1 then((c224 x5 x6).bind fun r1=>((c224 x6 x6).bind fun r2=>(if(0:Int)≤1 then(gl0 (x1/2) r1 r2)else(none))))else((c224 x6 x6).bind fun r3=>(if(0:Int)≤1 then(gl0 (x1/2) x5 r3)else(none))))else((c223 x5).bind fun r4=>(some r4))
theorem D7o (s0:C3 B0c.ask.bl) (s:C4F.T):B0c.po E0 (C5J c223 c224 c225) (C2n gl0) s0 0 (C4F.mk' s)=C7N gl0 c223 c224 s.1.1 s.1.2.1 s.1.2.2.1:=by kernel_rfl
noncomputable def B9G (x0:ByteArray) (x1:Int):Option l5:=(c225 x0).bind fun r1=>(gl0 x1 ([1]:List Int) r1)
theorem D7q (s:B0c.ask.T):B0c.ev E0 (C5J c223 c224 c225) (C2n gl0) s=B9G gl0 c225 s.1.1 s.1.2.1:=by kernel_rfl
end
noncomputable def D3K (c188:ByteArray→Int→Option l5) (c192:Bool→ByteArray→Option V3):List FE:=[B9I c188,A5N c192]
section
variable (c188:ByteArray→Int→Option l5) (c192:Bool→ByteArray→Option V3)
noncomputable def C6J (x0:TI) (x1:Int):Option B1B:=B2 (x0.1) (if(2:Int)=0 then(none)else((c188 x0.2 x1).bind fun r1=>((c192 (decide (Int.tmod x1 2=1)) r1).bind fun r2=>(some (r2.1,r2.2))))) ((c188 x0.2 x1).bind fun r3=>((c192 false r3).bind fun r4=>(some (r4.1,r4.2))))
theorem E5T (s:B5B.ask.T):B5B.ev E0 (D3K c188 c192) [] s=C6J c188 c192 s.1.1 s.1.2.1:=by kernel_rfl
end
noncomputable def D4C (c187:TI→Int→Option B1B) (c188:ByteArray→Int→Option l5):List FE:=[D0y c187,B9I c188]
section
variable (c187:TI→Int→Option B1B) (c188:ByteArray→Int→Option l5)
noncomputable def B8Q (x0:TQ) (x1:Int):Option B0N:=(c187 x0.1 x1).bind fun r1=>((c188 x0.2 x1).bind fun r2=>(some ((r1.1,r1.2),r2)))
theorem E3c (s:B4n.ask.T):B4n.ev E0 (D4C c187 c188) [] s=B8Q c187 c188 s.1.1 s.1.2.1:=by kernel_rfl
end
noncomputable def C9s (c192:Bool→ByteArray→Option V3):List FE:=[A5N c192]
section
variable (c192:Bool→ByteArray→Option V3)
noncomputable def B9V (x0:TI):Option A9U:=(c192 (!x0.1) x0.2).bind fun r1=>(some (r1.1,r1.2))
theorem E8d (s:B3c.ask.T):B3c.ev E0 (C9s c192) [] s=B9V c192 s.1.1:=by kernel_rfl
end
noncomputable def D0H (c190:TI→Option A9U):List FE:=[D2V c190]
section
variable (c190:TI→Option A9U)
noncomputable def C7n (x0:TQ):Option A5D:=(c190 x0.1).bind fun r1=>(some ((r1.1,r1.2),x0.2))
theorem E6h (s:B7w.ask.T):B7w.ev E0 (D0H c190) [] s=C7n c190 s.1.1:=by kernel_rfl
end
noncomputable def C2W:Sk:=⟨[(5, .f (.a (.ref 5))),(6, .f (.a (.ref 6))),(7, .f (.a (.ref 7))),(8, .d (.it .u64)),(27, .d (.it .i64)),(28, .d (.it .i64))],[(5, .own (.it .u64) true),(6, .own (.it .u64) true),(7, .own (.it .u64) true)]⟩
noncomputable def C4Q (gl0:Int→Int→Int→(List Int)→(List Int)→(List Int)→Option A2Y):List (C6 A2Y):=[⟨7,C2W,fun s=>gl0 s.1.1 s.1.2.1 s.1.2.2.1 s.2.1 s.2.2.1 s.2.2.2.1⟩]
noncomputable def C4R (c223:(List Int)→Option J3) (c225:ByteArray→Option R9) (c247:Int→Int→Int→Option A3X):List FE:=[A5S c223,A5n c225,B7K c247]
section
variable (gl0:Int→Int→Int→(List Int)→(List Int)→(List Int)→Option A2Y) (c223:(List Int)→Option J3) (c225:ByteArray→Option R9) (c247:Int→Int→Int→Option A3X)
noncomputable def C1n (x8:Int) (x27:Int) (x28:Int) (x5:(List Int)) (x6:(List Int)) (x7:(List Int)):Option A2Y:=if x28<x27 then(if x28<(x6.length:Int)then(if 0≤x28 then(if x28<(x6.length:Int)then(if 0≤x28 then(if x28<(x5.length:Int)then((c247 (rd x5 x28) (rd x6 x28) x8).bind fun r1=>(if 0≤x28 then(if x28<(x7.length:Int)then(gl0 r1.2 x27 (wrap64 (x28+1)) x5 x6 (x7.set (x28:Int).toNat r1.1))else(none))else(none)))else(none))else(none))else(none))else(none))else(if 0≤x28 then(if x28<(x5.length:Int)then((c247 (rd x5 x28) 0 x8).bind fun r2=>(if 0≤x28 then(if x28<(x7.length:Int)then(gl0 r2.2 x27 (wrap64 (x28+1)) x5 x6 (x7.set (x28:Int).toNat r2.1))else(none))else(none)))else(none))else(none)))else(if 0≤(x5.length:Int)then(if(x5.length:Int)<(x7.length:Int)then((c223 (x7.set ((x5.length:Int):Int).toNat x8)).bind fun r3=>(some r3))else(none))else(none))
theorem F2k (s0:C3 A9x.ask.bl) (s:C2W.T):A9x.po E0 (C4R c223 c225 c247) (C4Q gl0) s0 0 (C2W.mk' s)=C1n gl0 c223 c247 s.1.1 s.1.2.1 s.1.2.2.1 s.2.1 s.2.2.1 s.2.2.2.1:=by kernel_rfl
noncomputable def C3B (x0:ByteArray) (x1:ByteArray):Option A2Y:=(c225 x0).bind fun r1=>((c225 x1).bind fun r2=>(if(r1.length:Int)<(r2.length:Int)then(if 0≤wrap64 ((r2.length:Int)+1)then(if wrap64 ((r2.length:Int)+1)≤wrap64 ((r2.length:Int)+1)then(if(wrap64 ((r2.length:Int)+1):Int).toNat≤35184372088832 then(gl0 0 (r2.length:Int) 0 r2 r1 (List.replicate (wrap64 ((r2.length:Int)+1):Int).toNat (0:Int)))else(none))else(none))else(none))else(if 0≤wrap64 ((r1.length:Int)+1)then(if wrap64 ((r1.length:Int)+1)≤wrap64 ((r1.length:Int)+1)then(if(wrap64 ((r1.length:Int)+1):Int).toNat≤35184372088832 then(gl0 0 (r1.length:Int) 0 r1 r2 (List.replicate (wrap64 ((r1.length:Int)+1):Int).toNat (0:Int)))else(none))else(none))else(none))))
theorem F0o (s:A9x.ask.T):A9x.ev E0 (C4R c223 c225 c247) (C4Q gl0) s=C3B gl0 c225 s.1.1 s.1.2.1:=by kernel_rfl
end
noncomputable def C1Q (x0:ByteArray) (x1:ByteArray):Option A5U:=if(x0.size:Int)<(x1.size:Int)then(some (-1))else(if(x0.size:Int)=(x1.size:Int)then(B2 ((Op.bytesLess x0.toList x1.toList)) (some (-1)) (B2 ((E6 x0 x1)) (some 0) (some 1)))else(B2 ((E6 x0 x1)) (some 0) (some 1)))
theorem F1F (s:B5X.ask.T):B5X.ev E0 [] [] s=C1Q s.1.1 s.1.2.1:=by kernel_rfl
noncomputable def B9X:Sk:=⟨[(5, .f (.a (.ref 5))),(6, .f (.a (.ref 6))),(7, .d (.it .u64)),(15, .d (.it .i64)),(16, .d (.it .i64))],[(5, .own (.it .u64) true),(6, .own (.it .u64) true)]⟩
noncomputable def C6Y (gl0:Int→Int→Int→(List Int)→(List Int)→Option A1j):List (C6 A1j):=[⟨4,B9X,fun s=>gl0 s.1.1 s.1.2.1 s.1.2.2.1 s.2.1 s.2.2.1⟩]
noncomputable def C1U (c223:(List Int)→Option J3) (c225:ByteArray→Option R9) (c248:Int→Int→Int→Option A7N):List FE:=[A5S c223,A5n c225,C3G c248]
section
variable (gl0:Int→Int→Int→(List Int)→(List Int)→Option A1j) (c223:(List Int)→Option J3) (c225:ByteArray→Option R9) (c248:Int→Int→Int→Option A7N)
noncomputable def C5A (x7:Int) (x15:Int) (x16:Int) (x5:(List Int)) (x6:(List Int)):Option A1j:=if x16<x15 then(if x16<(x6.length:Int)then(if 0≤x16 then(if x16<(x6.length:Int)then(if 0≤x16 then(if x16<(x5.length:Int)then((c248 (rd x5 x16) (rd x6 x16) x7).bind fun r1=>(if 0≤x16 then(if x16<(x5.length:Int)then(gl0 r1.2 x15 (wrap64 (x16+1)) (x5.set (x16:Int).toNat r1.1) x6)else(none))else(none)))else(none))else(none))else(none))else(none))else(if 0≤x16 then(if x16<(x5.length:Int)then((c248 (rd x5 x16) 0 x7).bind fun r2=>(if 0≤x16 then(if x16<(x5.length:Int)then(gl0 r2.2 x15 (wrap64 (x16+1)) (x5.set (x16:Int).toNat r2.1) x6)else(none))else(none)))else(none))else(none)))else((c223 x5).bind fun r3=>(some r3))
theorem D8o (s0:C3 B0p.ask.bl) (s:B9X.T):B0p.po E0 (C1U c223 c225 c248) (C6Y gl0) s0 0 (B9X.mk' s)=C5A gl0 c223 c248 s.1.1 s.1.2.1 s.1.2.2.1 s.2.1 s.2.2.1:=by kernel_rfl
noncomputable def C7j (x0:ByteArray) (x1:ByteArray):Option A1j:=(c225 x0).bind fun r1=>((c225 x1).bind fun r2=>(gl0 0 (r1.length:Int) 0 r1 r2))
theorem E8G (s:B0p.ask.T):B0p.ev E0 (C1U c223 c225 c248) (C6Y gl0) s=C7j gl0 c225 s.1.1 s.1.2.1:=by kernel_rfl
end
noncomputable def D3t (c192:Bool→ByteArray→Option V3) (c226:ByteArray→ByteArray→Option A2Y) (c227:ByteArray→ByteArray→Option A5U) (c228:ByteArray→ByteArray→Option A1j):List FE:=[A5N c192,D4F c226,C7Y c227,D3R c228]
section
variable (c192:Bool→ByteArray→Option V3) (c226:ByteArray→ByteArray→Option A2Y) (c227:ByteArray→ByteArray→Option A5U) (c228:ByteArray→ByteArray→Option A1j)
noncomputable def C5g (x0:TI) (x1:TI):Option A8S:=B2 ((x0.1==x1.1)) ((c226 x0.2 x1.2).bind fun r1=>((c192 x0.1 r1).bind fun r2=>(some (r2.1,r2.2)))) ((c227 x0.2 x1.2).bind fun r3=>(if r3<0 then((c228 x1.2 x0.2).bind fun r4=>((c192 x1.1 r4).bind fun r5=>(some (r5.1,r5.2))))else((c228 x0.2 x1.2).bind fun r6=>((c192 x0.1 r6).bind fun r7=>(some (r7.1,r7.2))))))
theorem E4Q (s:B7c.ask.T):B7c.ev E0 (D3t c192 c226 c227 c228) [] s=C5g c192 c226 c227 c228 s.1.1 s.1.2.1:=by kernel_rfl
end
noncomputable def D1u (c149:TI→Option A2n) (c185:TI→TI→Option A4r) (c186:ByteArray→ByteArray→Option A0g) (c191:TI→TI→Option A8S) (c192:Bool→ByteArray→Option V3):List FE:=[B5P c149,C4n c185,B1c c186,C9E c191,A5N c192]
section
variable (c149:TI→Option A2n) (c185:TI→TI→Option A4r) (c186:ByteArray→ByteArray→Option A0g) (c191:TI→TI→Option A8S) (c192:Bool→ByteArray→Option V3)
noncomputable def C1u (x0:TQ) (x1:TQ):Option A3I:=B2 ((E6 x0.2 x1.2)) (B2 ((E6 x0.2 (⟨#[1]⟩:ByteArray))) ((c191 x0.1 x1.1).bind fun r1=>((c149 (r1.1,r1.2)).bind fun r2=>(some (r2.1,r2.2)))) ((c191 x0.1 x1.1).bind fun r3=>((c185 (r3.1,r3.2) (false,x0.2)).bind fun r4=>(some (r4.1,r4.2))))) ((c186 x0.1.2 x1.2).bind fun r5=>((c192 x0.1.1 r5).bind fun r6=>((c186 x1.1.2 x0.2).bind fun r7=>((c192 x1.1.1 r7).bind fun r8=>((c191 (r6.1,r6.2) (r8.1,r8.2)).bind fun r9=>((c186 x0.2 x1.2).bind fun r10=>((c185 (r9.1,r9.2) (false,r10)).bind fun r11=>(some (r11.1,r11.2)))))))))
theorem F0T (s:B5u.ask.T):B5u.ev E0 (D1u c149 c185 c186 c191 c192) [] s=C1u c149 c185 c186 c191 c192 s.1.1 s.1.2.1:=by kernel_rfl
end
noncomputable def D5u (c145:TQ→Option A5D) (c148:TQ→TQ→Option A3I):List FE:=[C7S c145,B7l c148]
section
variable (c145:TQ→Option A5D) (c148:TQ→TQ→Option A3I)
noncomputable def B88 (x0:TQ) (x1:TQ):Option R88:=(c145 x1).bind fun r1=>((c148 x0 (r1.1,r1.2)).bind fun r2=>(some (r2.1,r2.2)))
theorem e88 (s:D88.ask.T):D88.ev E0 (D5u c145 c148) [] s=B88 c145 c148 s.1.1 s.1.2.1:=by kernel_rfl
end
noncomputable def C2c:Sk:=⟨[(0, .d (.li (.ag (.pr (.ag (.pr .bo .st)) .st)))),(3, .d (.it .i64))],[]⟩
noncomputable def B8R (gl0:(List TQ)→Int→Option M8):List (C6 M8):=[⟨2,C2c,fun s=>gl0 s.1.1 s.1.2.1⟩]
noncomputable def C4G (c152:TQ→Option A0W):List FE:=[B2e c152]
section
variable (gl0:(List TQ)→Int→Option M8) (c152:TQ→Option A0W)
noncomputable def A5y (x0:(List TQ)) (x3:Int):Option M8:=if x3>0 then(if 0≤wrap64 (x3-1)then(if wrap64 (x3-1)<(x0.length:Int)then((c152 (C2 ((false,(⟨#[]⟩:ByteArray)),(⟨#[]⟩:ByteArray)) x0 (wrap64 (x3-1)))).bind fun r1=>(B2 (r1) (gl0 x0 (wrap64 (x3-1))) (if(0:Int)≤0 then(if 0≤x3 then(if x3≤x3 then(if x3≤(x0.length:Int)then(some (slice_ x0 0 x3))else(none))else(none))else(none))else(none))))else(none))else(none))else(if(0:Int)≤0 then(if 0≤x3 then(if x3≤x3 then(if x3≤(x0.length:Int)then(some (slice_ x0 0 x3))else(none))else(none))else(none))else(none))
theorem E4I (s0:C3 D92.ask.bl) (s:C2c.T):D92.po E0 (C4G c152) (B8R gl0) s0 0 (C2c.mk' s)=A5y gl0 c152 s.1.1 s.1.2.1:=by kernel_rfl
noncomputable def B92 (x0:(List TQ)):Option M8:=gl0 x0 (x0.length:Int)
theorem e92 (s:D92.ask.T):D92.ev E0 (C4G c152) (B8R gl0) s=B92 gl0 s.1.1:=by kernel_rfl
end
noncomputable def C5Z (x0:TQ):Option A2o:=some ((x0.1.1,x0.2),x0.1.2)
theorem F1P (s:B5q.ask.T):B5q.ev E0 [] [] s=C5Z s.1.1:=by kernel_rfl
noncomputable def C3T (x0:(List TQ)):Option B6c:=some ([]:List TQ)
theorem E1u (s:B5U.ask.T):B5U.ev E0 [] [] s=C3T s.1.1:=by kernel_rfl
noncomputable def A7n (x0:(List TQ)):Option B6l:=if(([]:List TQ).length+x0.length)*40≤140737488355328 then(some (([]:List TQ)++x0))else(none)
theorem E9k (s:B5Y.ask.T):B5Y.ev E0 [] [] s=A7n s.1.1:=by kernel_rfl
noncomputable def C4b:Sk:=⟨[(0, .d (.li (.ag (.pr (.ag (.pr .bo .st)) .st)))),(1, .d (.li (.ag (.pr (.ag (.pr .bo .st)) .st)))),(6, .f (.a (.ref 6))),(7, .d (.it .i64)),(8, .f (.a (.ref 8))),(30, .d (.it .i64)),(31, .d (.it .i64))],[(6, .own (.ag (.pr (.ag (.pr .bo .st)) .st)) true),(8, .own (.ag (.pr (.ag (.pr .bo .st)) .st)) true)]⟩
noncomputable def C7R:Sk:=⟨[(1, .d (.li (.ag (.pr (.ag (.pr .bo .st)) .st)))),(6, .f (.a (.ref 6))),(7, .d (.it .i64)),(8, .f (.a (.ref 8))),(10, .f (.a (.ptr 10 0 []))),(11, .d (.it .i64))],[(6, .own (.ag (.pr (.ag (.pr .bo .st)) .st)) true),(8, .own (.ag (.pr (.ag (.pr .bo .st)) .st)) true),(10, .cell (.ag (.pr (.ag (.pr .bo .st)) .st)) true)]⟩
noncomputable def C7q:Sk:=⟨[(1, .d (.li (.ag (.pr (.ag (.pr .bo .st)) .st)))),(6, .f (.a (.ref 6))),(7, .d (.it .i64)),(8, .f (.a (.ref 8))),(10, .f (.a (.ptr 10 0 []))),(11, .d (.it .i64)),(12, .f (.a (.ptr 12 0 []))),(69, .d (.it .i64)),(70, .d (.it .i64))],[(6, .own (.ag (.pr (.ag (.pr .bo .st)) .st)) true),(8, .own (.ag (.pr (.ag (.pr .bo .st)) .st)) true),(10, .cell (.ag (.pr (.ag (.pr .bo .st)) .st)) true),(12, .cell (.ag (.pr (.ag (.pr .bo .st)) .st)) true)]⟩
noncomputable def B1K (gl0:(List TQ)→(List TQ)→Int→Int→Int→(List TQ)→(List TQ)→Option O9) (gl1:(List TQ)→Int→Int→(List TQ)→(List TQ)→TQ→Option O9) (gl2:(List TQ)→Int→Int→Int→Int→(List TQ)→(List TQ)→TQ→TQ→Option O9):List (C6 O9):=[⟨7,C4b,fun s=>gl0 s.1.1 s.1.2.1 s.1.2.2.1 s.1.2.2.2.1 s.1.2.2.2.2.1 s.2.1 s.2.2.1⟩,⟨13,C7R,fun s=>gl1 s.1.1 s.1.2.1 s.1.2.2.1 s.2.1 s.2.2.1 s.2.2.2.1⟩,⟨19,C7q,fun s=>gl2 s.1.1 s.1.2.1 s.1.2.2.1 s.1.2.2.2.1 s.1.2.2.2.2.1 s.2.1 s.2.2.1 s.2.2.2.1 s.2.2.2.2.1⟩]
noncomputable def B2z (c88:TQ→TQ→Option R88) (c89:Int→Option S5) (c92:(List TQ)→Option M8) (c142:TQ→TQ→Option f9) (c147:TQ→Option A2o) (c152:TQ→Option A0W) (c189:(List TQ)→Option B1n):List FE:=[B7x c88,A4K c89,A4L c92,A9H c142,B4S c147,B2e c152,D6B c189]
section
variable (gl0:(List TQ)→(List TQ)→Int→Int→Int→(List TQ)→(List TQ)→Option O9) (gl1:(List TQ)→Int→Int→(List TQ)→(List TQ)→TQ→Option O9) (gl2:(List TQ)→Int→Int→Int→Int→(List TQ)→(List TQ)→TQ→TQ→Option O9) (c88:TQ→TQ→Option R88) (c89:Int→Option S5) (c92:(List TQ)→Option M8) (c142:TQ→TQ→Option f9) (c147:TQ→Option A2o) (c152:TQ→Option A0W) (c189:(List TQ)→Option B1n)
noncomputable def C7w (x0:(List TQ)) (x1:(List TQ)) (x7:Int) (x30:Int) (x31:Int) (x6:(List TQ)) (x8:(List TQ)):Option O9:=if x31<x30 then((c89 0).bind fun r1=>(if 0≤x31 then(if x31<(x8.length:Int)then(gl0 x0 x1 x7 x30 (wrap64 (x31+1)) x6 (x8.set (x31:Int).toNat (r1.1,r1.2)))else(none))else(none)))else(if 0≤wrap64 (x7-1)then(if wrap64 (x7-1)<(x1.length:Int)then((c147 (C2 ((false,(⟨#[]⟩:ByteArray)),(⟨#[]⟩:ByteArray)) x1 (wrap64 (x7-1)))).bind fun r2=>(gl1 x1 x7 (wrap64 ((x0.length:Int)-x7)) x6 x8 (r2.1,r2.2)))else(none))else(none))
theorem E1i (s0:C3 A2k.ask.bl) (s:C4b.T):A2k.po E0 (B2z c88 c89 c92 c142 c147 c152 c189) (B1K gl0 gl1 gl2) s0 0 (C4b.mk' s)=C7w gl0 gl1 c89 c147 s.1.1 s.1.2.1 s.1.2.2.1 s.1.2.2.2.1 s.1.2.2.2.2.1 s.2.1 s.2.2.1:=by kernel_rfl
noncomputable def B8Z (x1:(List TQ)) (x7:Int) (x11:Int) (x6:(List TQ)) (x8:(List TQ)) (x10:TQ):Option O9:=if x11≥0 then(if 0≤wrap64 ((wrap64 (x11+x7))-1)then(if wrap64 ((wrap64 (x11+x7))-1)<(x6.length:Int)then((c142 (C2 ((false,(⟨#[]⟩:ByteArray)),(⟨#[]⟩:ByteArray)) x6 (wrap64 ((wrap64 (x11+x7))-1))) x10).bind fun r1=>(if 0≤x11 then(if x11<(x8.length:Int)then((c152 (r1.1,r1.2)).bind fun r2=>(B2 (r2) (gl1 x1 x7 (wrap64 (x11-1)) x6 (x8.set (x11:Int).toNat (r1.1,r1.2)) x10) (gl2 x1 x7 x11 (x1.length:Int) 0 x6 (x8.set (x11:Int).toNat (r1.1,r1.2)) x10 (r1.1,r1.2))))else(none))else(none)))else(none))else(none))else((c92 x8).bind fun r3=>(if(0:Int)≤0 then(if 0≤wrap64 (x7-1)then(if wrap64 (x7-1)≤(x6.length:Int)then(if(x6.length:Int)≤(x6.length:Int)then((c92 (slice_ x6 0 (wrap64 (x7-1)))).bind fun r4=>(some (r3,r4)))else(none))else(none))else(none))else(none)))
theorem E7r (s0:C3 A2k.ask.bl) (s:C7R.T):A2k.po E0 (B2z c88 c89 c92 c142 c147 c152 c189) (B1K gl0 gl1 gl2) s0 1 (C7R.mk' s)=B8Z gl1 gl2 c92 c142 c152 s.1.1 s.1.2.1 s.1.2.2.1 s.2.1 s.2.2.1 s.2.2.2.1:=by kernel_rfl
noncomputable def C5l (x1:(List TQ)) (x7:Int) (x11:Int) (x69:Int) (x70:Int) (x6:(List TQ)) (x8:(List TQ)) (x10:TQ) (x12:TQ):Option O9:=if x70<x69 then(if 0≤wrap64 (x11+x70)then(if wrap64 (x11+x70)<(x6.length:Int)then(if 0≤x70 then(if x70<(x1.length:Int)then((c142 x12 (C2 ((false,(⟨#[]⟩:ByteArray)),(⟨#[]⟩:ByteArray)) x1 x70)).bind fun r1=>((c88 (C2 ((false,(⟨#[]⟩:ByteArray)),(⟨#[]⟩:ByteArray)) x6 (wrap64 (x11+x70))) (r1.1,r1.2)).bind fun r2=>(if 0≤wrap64 (x11+x70)then(if wrap64 (x11+x70)<(x6.length:Int)then(gl2 x1 x7 x11 x69 (wrap64 (x70+1)) (x6.set (wrap64 (x11+x70):Int).toNat (r2.1,r2.2)) x8 x10 x12)else(none))else(none))))else(none))else(none))else(none))else(none))else(gl1 x1 x7 (wrap64 (x11-1)) x6 x8 x10)
theorem E2P (s0:C3 A2k.ask.bl) (s:C7q.T):A2k.po E0 (B2z c88 c89 c92 c142 c147 c152 c189) (B1K gl0 gl1 gl2) s0 2 (C7q.mk' s)=C5l gl1 gl2 c88 c142 s.1.1 s.1.2.1 s.1.2.2.1 s.1.2.2.2.1 s.1.2.2.2.2.1 s.2.1 s.2.2.1 s.2.2.2.1 s.2.2.2.2.1:=by kernel_rfl
noncomputable def B9v (x0:(List TQ)) (x1:(List TQ)):Option O9:=(c189 x0).bind fun r1=>(if(x0.length:Int)<(x1.length:Int)then(some (([]:List TQ),r1))else(if 0≤wrap64 ((wrap64 ((x0.length:Int)-(x1.length:Int)))+1)then(if wrap64 ((wrap64 ((x0.length:Int)-(x1.length:Int)))+1)≤wrap64 ((wrap64 ((x0.length:Int)-(x1.length:Int)))+1)then(if(wrap64 ((wrap64 ((x0.length:Int)-(x1.length:Int)))+1):Int).toNat≤7036874417766 then(gl0 x0 x1 (x1.length:Int) ((List.replicate (wrap64 ((wrap64 ((x0.length:Int)-(x1.length:Int)))+1):Int).toNat ((false,(⟨#[]⟩:ByteArray)),(⟨#[]⟩:ByteArray))).length:Int) 0 r1 (List.replicate (wrap64 ((wrap64 ((x0.length:Int)-(x1.length:Int)))+1):Int).toNat ((false,(⟨#[]⟩:ByteArray)),(⟨#[]⟩:ByteArray))))else(none))else(none))else(none)))
theorem F3K (s:A2k.ask.T):A2k.ev E0 (B2z c88 c89 c92 c142 c147 c152 c189) (B1K gl0 gl1 gl2) s=B9v gl0 c189 s.1.1 s.1.2.1:=by kernel_rfl
end
noncomputable def C2v:Sk:=⟨[(0, .d (.li (.ag (.pr (.ag (.pr .bo .st)) .st)))),(1, .d (.li (.ag (.pr (.ag (.pr .bo .st)) .st)))),(4, .f (.a (.ptr 4 0 []))),(5, .f (.a (.ptr 5 0 [])))],[(4, .cell (.ag (.pr (.ag (.pr .bo .st)) .st)) true),(5, .cell (.ag (.pr (.ag (.pr .bo .st)) .st)) true)]⟩
noncomputable def C6F (gl0:(List TQ)→(List TQ)→TQ→TQ→Option R84):List (C6 R84):=[⟨2,C2v,fun s=>gl0 s.1.1 s.1.2.1 s.2.1 s.2.2.1⟩]
noncomputable def C3i (c89:Int→Option S5) (c142:TQ→TQ→Option f9) (c143:TQ→Int→Option B0N) (c144:(List TQ)→(List TQ)→Option O9) (c145:TQ→Option A5D):List FE:=[A4K c89,A9H c142,D0G c143,B5Z c144,C7S c145]
section
variable (gl0:(List TQ)→(List TQ)→TQ→TQ→Option R84) (c89:Int→Option S5) (c142:TQ→TQ→Option f9) (c143:TQ→Int→Option B0N) (c144:(List TQ)→(List TQ)→Option O9) (c145:TQ→Option A5D)
noncomputable def C4c (x0:(List TQ)) (x1:(List TQ)) (x4:TQ) (x5:TQ):Option R84:=if wrap64 ((x1.length:Int)-1)<0 then(if wrap64 ((x0.length:Int)-1)>0 then((c89 0).bind fun r1=>(some (r1.1,r1.2)))else(if wrap64 ((x1.length:Int)-1)<0 then(some (x5.1,x5.2))else(if wrap64 ((x1.length:Int)-1)=0 then(if(0:Int)≤0 then(if 0<(x1.length:Int)then((c143 (C2 ((false,(⟨#[]⟩:ByteArray)),(⟨#[]⟩:ByteArray)) x1 0) (wrap64 ((x0.length:Int)-1))).bind fun r2=>((c142 x5 (r2.1,r2.2)).bind fun r3=>(some (r3.1,r3.2))))else(none))else(none))else((c144 x0 x1).bind fun r4=>(if(r4.2.length:Int)=0 then((c89 0).bind fun r5=>(some (r5.1,r5.2)))else(if(2:Int)=0 then(none)else(if Int.tmod (wrap64 ((wrap64 ((x0.length:Int)-1))*(wrap64 ((x1.length:Int)-1)))) 2=1 then((c145 x5).bind fun r6=>(if 0≤wrap64 ((x1.length:Int)-1)then(if wrap64 ((x1.length:Int)-1)<(x1.length:Int)then((c143 (C2 ((false,(⟨#[]⟩:ByteArray)),(⟨#[]⟩:ByteArray)) x1 (wrap64 ((x1.length:Int)-1))) (wrap64 ((wrap64 ((wrap64 ((x0.length:Int)-1))-(r4.2.length:Int)))+1))).bind fun r7=>((c142 (r6.1,r6.2) (r7.1,r7.2)).bind fun r8=>(gl0 x1 r4.2 x4 (r8.1,r8.2))))else(none))else(none)))else(if 0≤wrap64 ((x1.length:Int)-1)then(if wrap64 ((x1.length:Int)-1)<(x1.length:Int)then((c143 (C2 ((false,(⟨#[]⟩:ByteArray)),(⟨#[]⟩:ByteArray)) x1 (wrap64 ((x1.length:Int)-1))) (wrap64 ((wrap64 ((wrap64 ((x0.length:Int)-1))-(r4.2.length:Int)))+1))).bind fun r9=>((c142 x5 (r9.1,r9.2)).bind fun r10=>(gl0 x1 r4.2 x4 (r10.1,r10.2))))else(none))else(none)))))))))else(if wrap64 ((x1.length:Int)-1)<0 then(some (x5.1,x5.2))else(if wrap64 ((x1.length:Int)-1)=0 then(if(0:Int)≤0 then(if 0<(x1.length:Int)then((c143 (C2 ((false,(⟨#[]⟩:ByteArray)),(⟨#[]⟩:ByteArray)) x1 0) (wrap64 ((x0.length:Int)-1))).bind fun r11=>((c142 x5 (r11.1,r11.2)).bind fun r12=>(some (r12.1,r12.2))))else(none))else(none))else((c144 x0 x1).bind fun r13=>(if(r13.2.length:Int)=0 then((c89 0).bind fun r14=>(some (r14.1,r14.2)))else(if(2:Int)=0 then(none)else(if Int.tmod (wrap64 ((wrap64 ((x0.length:Int)-1))*(wrap64 ((x1.length:Int)-1)))) 2=1 then((c145 x5).bind fun r15=>(if 0≤wrap64 ((x1.length:Int)-1)then(if wrap64 ((x1.length:Int)-1)<(x1.length:Int)then((c143 (C2 ((false,(⟨#[]⟩:ByteArray)),(⟨#[]⟩:ByteArray)) x1 (wrap64 ((x1.length:Int)-1))) (wrap64 ((wrap64 ((wrap64 ((x0.length:Int)-1))-(r13.2.length:Int)))+1))).bind fun r16=>((c142 (r15.1,r15.2) (r16.1,r16.2)).bind fun r17=>(gl0 x1 r13.2 x4 (r17.1,r17.2))))else(none))else(none)))else(if 0≤wrap64 ((x1.length:Int)-1)then(if wrap64 ((x1.length:Int)-1)<(x1.length:Int)then((c143 (C2 ((false,(⟨#[]⟩:ByteArray)),(⟨#[]⟩:ByteArray)) x1 (wrap64 ((x1.length:Int)-1))) (wrap64 ((wrap64 ((wrap64 ((x0.length:Int)-1))-(r13.2.length:Int)))+1))).bind fun r18=>((c142 x5 (r18.1,r18.2)).bind fun r19=>(gl0 x1 r13.2 x4 (r19.1,r19.2))))else(none))else(none))))))))
theorem F1x (s0:C3 D84.ask.bl) (s:C2v.T):D84.po E0 (C3i c89 c142 c143 c144 c145) (C6F gl0) s0 0 (C2v.mk' s)=C4c gl0 c89 c142 c143 c144 c145 s.1.1 s.1.2.1 s.2.1 s.2.2.1:=by kernel_rfl
noncomputable def B84 (x0:(List TQ)) (x1:(List TQ)):Option R84:=(c89 1).bind fun r1=>(gl0 x0 x1 ((false,(⟨#[]⟩:ByteArray)),(⟨#[]⟩:ByteArray)) (r1.1,r1.2))
theorem e84 (s:D84.ask.T):D84.ev E0 (C3i c89 c142 c143 c144 c145) (C6F gl0) s=B84 gl0 c89 s.1.1 s.1.2.1:=by kernel_rfl
end
noncomputable def D3Z (c89:Int→Option S5):List FE:=[A4K c89]
section
variable (c89:Int→Option S5)
noncomputable def C1m (x0:(List TQ)) (x1:Int):Option A4n:=if x1<0 then((c89 0).bind fun r1=>(some (r1.1,r1.2)))else(if x1≥(x0.length:Int)then((c89 0).bind fun r2=>(some (r2.1,r2.2)))else(if 0≤x1 then(if x1<(x0.length:Int)then(some ((C2 ((false,(⟨#[]⟩:ByteArray)),(⟨#[]⟩:ByteArray)) x0 x1).1,(C2 ((false,(⟨#[]⟩:ByteArray)),(⟨#[]⟩:ByteArray)) x0 x1).2))else(none))else(none)))
theorem E6z (s:B4w.ask.T):B4w.ev E0 (D3Z c89) [] s=C1m c89 s.1.1 s.1.2.1:=by kernel_rfl
end
noncomputable def C7T:Sk:=⟨[(0, .d (.li (.ag (.pr (.ag (.pr .bo .st)) .st)))),(1, .d (.li (.ag (.pr (.ag (.pr .bo .st)) .st)))),(5, .f (.a (.ref 5))),(14, .d (.it .i64)),(15, .d (.it .i64))],[(5, .own (.ag (.pr (.ag (.pr .bo .st)) .st)) true)]⟩
noncomputable def C5h (gl0:(List TQ)→(List TQ)→Int→Int→(List TQ)→Option X1):List (C6 X1):=[⟨3,C7T,fun s=>gl0 s.1.1 s.1.2.1 s.1.2.2.1 s.1.2.2.2.1 s.2.1⟩]
noncomputable def C5o (c92:(List TQ)→Option M8) (c148:TQ→TQ→Option A3I) (c151:(List TQ)→Int→Option A4n):List FE:=[A4L c92,B7l c148,B8k c151]
section
variable (gl0:(List TQ)→(List TQ)→Int→Int→(List TQ)→Option X1) (c92:(List TQ)→Option M8) (c148:TQ→TQ→Option A3I) (c151:(List TQ)→Int→Option A4n)
noncomputable def C3F (x0:(List TQ)) (x1:(List TQ)) (x14:Int) (x15:Int) (x5:(List TQ)):Option X1:=if x15<x14 then((c151 x0 x15).bind fun r1=>((c151 x1 x15).bind fun r2=>((c148 (r1.1,r1.2) (r2.1,r2.2)).bind fun r3=>(if 0≤x15 then(if x15<(x5.length:Int)then(gl0 x0 x1 x14 (wrap64 (x15+1)) (x5.set (x15:Int).toNat (r3.1,r3.2)))else(none))else(none)))))else((c92 x5).bind fun r4=>(some r4))
theorem D8u (s0:C3 D90.ask.bl) (s:C7T.T):D90.po E0 (C5o c92 c148 c151) (C5h gl0) s0 0 (C7T.mk' s)=C3F gl0 c92 c148 c151 s.1.1 s.1.2.1 s.1.2.2.1 s.1.2.2.2.1 s.2.1:=by kernel_rfl
noncomputable def B90 (x0:(List TQ)) (x1:(List TQ)):Option X1:=if 0≤mx (x0.length:Int) (x1.length:Int)then(if mx (x0.length:Int) (x1.length:Int)≤mx (x0.length:Int) (x1.length:Int)then(if(mx (x0.length:Int) (x1.length:Int):Int).toNat≤7036874417766 then(gl0 x0 x1 ((List.replicate (mx (x0.length:Int) (x1.length:Int):Int).toNat ((false,(⟨#[]⟩:ByteArray)),(⟨#[]⟩:ByteArray))).length:Int) 0 (List.replicate (mx (x0.length:Int) (x1.length:Int):Int).toNat ((false,(⟨#[]⟩:ByteArray)),(⟨#[]⟩:ByteArray))))else(none))else(none))else(none)
theorem e90 (s:D90.ask.T):D90.ev E0 (C5o c92 c148 c151) (C5h gl0) s=B90 gl0 s.1.1 s.1.2.1:=by kernel_rfl
end
noncomputable def C4r:Sk:=⟨[(0, .d (.li (.ag (.pr (.ag (.pr .bo .st)) .st)))),(1, .d (.li (.ag (.pr (.ag (.pr .bo .st)) .st)))),(5, .f (.a (.ref 5))),(27, .d (.it .i64)),(28, .d (.it .i64))],[(5, .own (.ag (.pr (.ag (.pr .bo .st)) .st)) true)]⟩
noncomputable def B8V:Sk:=⟨[(1, .d (.li (.ag (.pr (.ag (.pr .bo .st)) .st)))),(5, .f (.a (.ref 5))),(36, .d (.li (.ag (.pr (.ag (.pr .bo .st)) .st)))),(37, .d (.it .i64)),(38, .d (.it .i64))],[(5, .own (.ag (.pr (.ag (.pr .bo .st)) .st)) true)]⟩
noncomputable def C0Z:Sk:=⟨[(1, .d (.li (.ag (.pr (.ag (.pr .bo .st)) .st)))),(5, .f (.a (.ref 5))),(7, .d (.it .i64)),(8, .f (.a (.ptr 8 0 []))),(36, .d (.li (.ag (.pr (.ag (.pr .bo .st)) .st)))),(37, .d (.it .i64)),(38, .d (.it .i64)),(45, .d (.li (.ag (.pr (.ag (.pr .bo .st)) .st)))),(46, .d (.it .i64)),(47, .d (.it .i64))],[(5, .own (.ag (.pr (.ag (.pr .bo .st)) .st)) true),(8, .cell (.ag (.pr (.ag (.pr .bo .st)) .st)) true)]⟩
noncomputable def B2O (gl0:(List TQ)→(List TQ)→Int→Int→(List TQ)→Option M6) (gl1:(List TQ)→(List TQ)→Int→Int→(List TQ)→Option M6) (gl2:(List TQ)→Int→(List TQ)→Int→Int→(List TQ)→Int→Int→(List TQ)→TQ→Option M6):List (C6 M6):=[⟨5,C4r,fun s=>gl0 s.1.1 s.1.2.1 s.1.2.2.1 s.1.2.2.2.1 s.2.1⟩,⟨10,B8V,fun s=>gl1 s.1.1 s.1.2.1 s.1.2.2.1 s.1.2.2.2.1 s.2.1⟩,⟨14,C0Z,fun s=>gl2 s.1.1 s.1.2.1 s.1.2.2.1 s.1.2.2.2.1 s.1.2.2.2.2.1 s.1.2.2.2.2.2.1 s.1.2.2.2.2.2.2.1 s.1.2.2.2.2.2.2.2.1 s.2.1 s.2.2.1⟩]
noncomputable def B1Y (c89:Int→Option S5) (c92:(List TQ)→Option M8) (c142:TQ→TQ→Option f9) (c148:TQ→TQ→Option A3I) (c152:TQ→Option A0W):List FE:=[A4K c89,A4L c92,A9H c142,B7l c148,B2e c152]
section
variable (gl0:(List TQ)→(List TQ)→Int→Int→(List TQ)→Option M6) (gl1:(List TQ)→(List TQ)→Int→Int→(List TQ)→Option M6) (gl2:(List TQ)→Int→(List TQ)→Int→Int→(List TQ)→Int→Int→(List TQ)→TQ→Option M6) (c89:Int→Option S5) (c92:(List TQ)→Option M8) (c142:TQ→TQ→Option f9) (c148:TQ→TQ→Option A3I) (c152:TQ→Option A0W)
noncomputable def C3f (x0:(List TQ)) (x1:(List TQ)) (x27:Int) (x28:Int) (x5:(List TQ)):Option M6:=if x28<x27 then((c89 0).bind fun r1=>(if 0≤x28 then(if x28<(x5.length:Int)then(gl0 x0 x1 x27 (wrap64 (x28+1)) (x5.set (x28:Int).toNat (r1.1,r1.2)))else(none))else(none)))else(gl1 x1 x0 (x0.length:Int) 0 x5)
theorem E8z (s0:C3 D91.ask.bl) (s:C4r.T):D91.po E0 (B1Y c89 c92 c142 c148 c152) (B2O gl0 gl1 gl2) s0 0 (C4r.mk' s)=C3f gl0 gl1 c89 s.1.1 s.1.2.1 s.1.2.2.1 s.1.2.2.2.1 s.2.1:=by kernel_rfl
noncomputable def B9d (x1:(List TQ)) (x36:(List TQ)) (x37:Int) (x38:Int) (x5:(List TQ)):Option M6:=if x38<x37 then(if 0≤x38 then(if x38<(x36.length:Int)then((c152 (C2 ((false,(⟨#[]⟩:ByteArray)),(⟨#[]⟩:ByteArray)) x36 x38)).bind fun r1=>(B2 (r1) (gl1 x1 x36 x37 (wrap64 (x38+1)) x5) (gl2 x1 x38 x36 x37 x38 x1 (x1.length:Int) 0 x5 (C2 ((false,(⟨#[]⟩:ByteArray)),(⟨#[]⟩:ByteArray)) x36 x38))))else(none))else(none))else((c92 x5).bind fun r2=>(some r2))
theorem E7g (s0:C3 D91.ask.bl) (s:B8V.T):D91.po E0 (B1Y c89 c92 c142 c148 c152) (B2O gl0 gl1 gl2) s0 1 (B8V.mk' s)=B9d gl1 gl2 c92 c152 s.1.1 s.1.2.1 s.1.2.2.1 s.1.2.2.2.1 s.2.1:=by kernel_rfl
noncomputable def C5V (x1:(List TQ)) (x7:Int) (x36:(List TQ)) (x37:Int) (x38:Int) (x45:(List TQ)) (x46:Int) (x47:Int) (x5:(List TQ)) (x8:TQ):Option M6:=if x47<x46 then(if 0≤x47 then(if x47<(x45.length:Int)then(if 0≤wrap64 (x7+x47)then(if wrap64 (x7+x47)<(x5.length:Int)then((c142 x8 (C2 ((false,(⟨#[]⟩:ByteArray)),(⟨#[]⟩:ByteArray)) x45 x47)).bind fun r1=>((c148 (C2 ((false,(⟨#[]⟩:ByteArray)),(⟨#[]⟩:ByteArray)) x5 (wrap64 (x7+x47))) (r1.1,r1.2)).bind fun r2=>(if 0≤wrap64 (x7+x47)then(if wrap64 (x7+x47)<(x5.length:Int)then(gl2 x1 x7 x36 x37 x38 x45 x46 (wrap64 (x47+1)) (x5.set (wrap64 (x7+x47):Int).toNat (r2.1,r2.2)) x8)else(none))else(none))))else(none))else(none))else(none))else(none))else(gl1 x1 x36 x37 (wrap64 (x38+1)) x5)
theorem D6k (s0:C3 D91.ask.bl) (s:C0Z.T):D91.po E0 (B1Y c89 c92 c142 c148 c152) (B2O gl0 gl1 gl2) s0 2 (C0Z.mk' s)=C5V gl1 gl2 c142 c148 s.1.1 s.1.2.1 s.1.2.2.1 s.1.2.2.2.1 s.1.2.2.2.2.1 s.1.2.2.2.2.2.1 s.1.2.2.2.2.2.2.1 s.1.2.2.2.2.2.2.2.1 s.2.1 s.2.2.1:=by kernel_rfl
noncomputable def B91 (x0:(List TQ)) (x1:(List TQ)):Option M6:=if(x0.length:Int)=0 then(some ([]:List TQ))else(if(x1.length:Int)=0 then(some ([]:List TQ))else(if 0≤wrap64 ((wrap64 ((x0.length:Int)+(x1.length:Int)))-1)then(if wrap64 ((wrap64 ((x0.length:Int)+(x1.length:Int)))-1)≤wrap64 ((wrap64 ((x0.length:Int)+(x1.length:Int)))-1)then(if(wrap64 ((wrap64 ((x0.length:Int)+(x1.length:Int)))-1):Int).toNat≤7036874417766 then(gl0 x0 x1 ((List.replicate (wrap64 ((wrap64 ((x0.length:Int)+(x1.length:Int)))-1):Int).toNat ((false,(⟨#[]⟩:ByteArray)),(⟨#[]⟩:ByteArray))).length:Int) 0 (List.replicate (wrap64 ((wrap64 ((x0.length:Int)+(x1.length:Int)))-1):Int).toNat ((false,(⟨#[]⟩:ByteArray)),(⟨#[]⟩:ByteArray))))else(none))else(none))else(none)))
theorem e91 (s:D91.ask.T):D91.ev E0 (B1Y c89 c92 c142 c148 c152) (B2O gl0 gl1 gl2) s=B91 gl0 s.1.1 s.1.2.1:=by kernel_rfl
end
noncomputable def D3B (c144:(List TQ)→(List TQ)→Option O9):List FE:=[B5Z c144]
section
variable (c144:(List TQ)→(List TQ)→Option O9)
noncomputable def C3k (x0:(List TQ)) (x1:(List TQ)):Option A2s:=(c144 x1 x0).bind fun r1=>(some r1.2)
theorem F0X (s:B8B.ask.T):B8B.ev E0 (D3B c144) [] s=C3k c144 s.1.1 s.1.2.1:=by kernel_rfl
end
noncomputable def D2e (c91:(List TQ)→(List TQ)→Option M6) (c165:(List TQ)→(List TQ)→Option A2s):List FE:=[B2b c91,B8M c165]
section
variable (c91:(List TQ)→(List TQ)→Option M6) (c165:(List TQ)→(List TQ)→Option A2s)
noncomputable def C5b (x0:(List TQ)) (x1:(List TQ)) (x2:(List TQ)):Option A2z:=(c91 x1 x2).bind fun r1=>((c165 x0 r1).bind fun r2=>(some r2))
theorem E2y (s:B3i.ask.T):B3i.ev E0 (D2e c91 c165) [] s=C5b c91 c165 s.1.1 s.1.2.1 s.1.2.2.1:=by kernel_rfl
end
noncomputable def B9P:Sk:=⟨[(1, .d (.li (.li (.ag (.pr (.ag (.pr .bo .st)) .st))))),(2, .d (.li (.ag (.pr (.ag (.pr .bo .st)) .st)))),(3, .f (.a (.ptr 3 0 []))),(7, .d (.li (.ag (.pr (.ag (.pr .bo .st)) .st)))),(8, .d (.it .i64))],[(3, .cell (.ag (.li (.ag (.pr (.ag (.pr .bo .st)) .st)))) true)]⟩
noncomputable def C5v (gl0:(List (List TQ))→(List TQ)→(List TQ)→Int→(List TQ)→Option R85):List (C6 R85):=[⟨3,B9P,fun s=>gl0 s.1.1 s.1.2.1 s.1.2.2.1 s.1.2.2.2.1 s.2.1⟩]
noncomputable def C5T (c90:(List TQ)→(List TQ)→Option X1) (c146:(List TQ)→(List TQ)→(List TQ)→Option A2z):List FE:=[B1I c90,B6v c146]
section
variable (gl0:(List (List TQ))→(List TQ)→(List TQ)→Int→(List TQ)→Option R85) (c90:(List TQ)→(List TQ)→Option X1) (c146:(List TQ)→(List TQ)→(List TQ)→Option A2z)
noncomputable def C8E (x1:(List (List TQ))) (x2:(List TQ)) (x7:(List TQ)) (x8:Int) (x3:(List TQ)):Option R85:=if x8≥0 then((c146 x3 x7 x2).bind fun r1=>(if 0≤x8 then(if x8<(x1.length:Int)then((c90 r1 (C2 ([]:List TQ) x1 x8)).bind fun r2=>(gl0 x1 x2 r2 (wrap64 (x8-1)) x3))else(none))else(none)))else(some x7)
theorem E3q (s0:C3 D85.ask.bl) (s:B9P.T):D85.po E0 (C5T c90 c146) (C5v gl0) s0 0 (B9P.mk' s)=C8E gl0 c90 c146 s.1.1 s.1.2.1 s.1.2.2.1 s.1.2.2.2.1 s.2.1:=by kernel_rfl
noncomputable def B85 (x0:(List TQ)) (x1:(List (List TQ))) (x2:(List TQ)):Option R85:=gl0 x1 x2 ([]:List TQ) (wrap64 ((x1.length:Int)-1)) x0
theorem e85 (s:D85.ask.T):D85.ev E0 (C5T c90 c146) (C5v gl0) s=B85 gl0 s.1.1 s.1.2.1 s.1.2.2.1:=by kernel_rfl
end
noncomputable def B9D:Sk:=⟨[(3, .f (.a (.ref 3))),(9, .d (.li (.it .i64))),(10, .d (.it .i64)),(11, .d (.it .i64))],[(3, .own (.ag (.pr (.ag (.pr .bo .st)) .st)) true)]⟩
noncomputable def C5i (gl0:(List Int)→Int→Int→(List TQ)→Option X6):List (C6 X6):=[⟨3,B9D,fun s=>gl0 s.1.1 s.1.2.1 s.1.2.2.1 s.2.1⟩]
noncomputable def C2D (c89:Int→Option S5) (c92:(List TQ)→Option M8):List FE:=[A4K c89,A4L c92]
section
variable (gl0:(List Int)→Int→Int→(List TQ)→Option X6) (c89:Int→Option S5) (c92:(List TQ)→Option M8)
noncomputable def B8y (x9:(List Int)) (x10:Int) (x11:Int) (x3:(List TQ)):Option X6:=if x11<x10 then(if 0≤x11 then(if x11<(x9.length:Int)then((c89 (rd x9 x11)).bind fun r1=>(if 0≤x11 then(if x11<(x3.length:Int)then(gl0 x9 x10 (wrap64 (x11+1)) (x3.set (x11:Int).toNat (r1.1,r1.2)))else(none))else(none)))else(none))else(none))else((c92 x3).bind fun r2=>(some r2))
theorem E8y (s0:C3 D86.ask.bl) (s:B9D.T):D86.po E0 (C2D c89 c92) (C5i gl0) s0 0 (B9D.mk' s)=B8y gl0 c89 c92 s.1.1 s.1.2.1 s.1.2.2.1 s.2.1:=by kernel_rfl
noncomputable def B86 (x0:(List Int)):Option X6:=if 0≤(x0.length:Int)then(if(x0.length:Int)≤(x0.length:Int)then(if((x0.length:Int):Int).toNat≤7036874417766 then(gl0 x0 (x0.length:Int) 0 (List.replicate ((x0.length:Int):Int).toNat ((false,(⟨#[]⟩:ByteArray)),(⟨#[]⟩:ByteArray))))else(none))else(none))else(none)
theorem e86 (s:D86.ask.T):D86.ev E0 (C2D c89 c92) (C5i gl0) s=B86 gl0 s.1.1:=by kernel_rfl
end
noncomputable def D0L (c142:TQ→TQ→Option f9) (c147:TQ→Option A2o):List FE:=[A9H c142,B4S c147]
section
variable (c142:TQ→TQ→Option f9) (c147:TQ→Option A2o)
noncomputable def B87 (x0:TQ) (x1:TQ):Option R87:=(c147 x1).bind fun r1=>((c142 x0 (r1.1,r1.2)).bind fun r2=>(some (r2.1,r2.2)))
theorem e87 (s:D87.ask.T):D87.ev E0 (D0L c142 c147) [] s=B87 c142 c147 s.1.1 s.1.2.1:=by kernel_rfl
end
noncomputable def B1M (x0:TQ):Option B0P:=if(x0.1.2.size:Int)>1024 then(some true)else(some (decide ((x0.2.size:Int)>1024)))
theorem F3P (s:B7R.ask.T):B7R.ev E0 [] [] s=B1M s.1.1:=by kernel_rfl
noncomputable def C0z:Sk:=⟨[(0, .d (.li (.ag (.pr (.ag (.pr .bo .st)) .st)))),(1, .f (.cl 154 [])),(7, .d (.it .i64)),(8, .d (.it .i64))],[]⟩
noncomputable def C5c (gl0:(List TQ)→Int→Int→Option A1I):List (C6 A1I):=[⟨2,C0z,fun s=>gl0 s.1.1 s.1.2.1 s.1.2.2.1⟩]
noncomputable def C4z (c154:TQ→Option B0P):List FE:=[C8z c154]
section
variable (gl0:(List TQ)→Int→Int→Option A1I) (c154:TQ→Option B0P)
noncomputable def A5v (x0:(List TQ)) (x7:Int) (x8:Int):Option A1I:=if x8<x7 then(if 0≤x8 then(if x8<(x0.length:Int)then((c154 (C2 ((false,(⟨#[]⟩:ByteArray)),(⟨#[]⟩:ByteArray)) x0 x8)).bind fun r1=>(B2 (r1) (some x8) (gl0 x0 x7 (wrap64 (x8+1)))))else(none))else(none))else(some (-1))
theorem E1X (s0:C3 A8c.ask.bl) (s:C0z.T):A8c.po E0 (C4z c154) (C5c gl0) s0 0 (C0z.mk' s)=A5v gl0 c154 s.1.1 s.1.2.1 s.1.2.2.1:=by kernel_rfl
noncomputable def B2h (x0:(List TQ)):Option A1I:=gl0 x0 (x0.length:Int) 0
theorem E8j (s:A8c.ask.T):A8c.ev E0 (C4z c154) (C5c gl0) s=B2h gl0 s.1.1:=by kernel_rfl
end
noncomputable def D6F (c194Large:(List TQ)→Option A1I):List FE:=[D1J c194Large]
section
variable (c194Large:(List TQ)→Option A1I)
noncomputable def B8r (x0:(List TQ)):Option A5B:=(c194Large x0).bind fun r1=>(some (decide (r1≥0)))
theorem F0U (s:B4P.ask.T):B4P.ev E0 (D6F c194Large) [] s=B8r c194Large s.1.1:=by kernel_rfl
end
noncomputable def C9K (c153Large:(List TQ)→Option A5B):List FE:=[C5q c153Large]
section
variable (c153Large:(List TQ)→Option A5B)
noncomputable def B93 (x0:(List TQ)):Option R93:=if(x0.length:Int)>65 then(some true)else((c153Large x0).bind fun r1=>(some r1))
theorem e93 (s:D93.ask.T):D93.ev E0 (C9K c153Large) [] s=B93 c153Large s.1.1:=by kernel_rfl
end
noncomputable def C7h:Sk:=⟨[(1, .d (.li (.li (.ag (.pr (.ag (.pr .bo .st)) .st))))),(2, .f (.a (.ptr 2 0 []))),(7, .d (.it .i64)),(8, .f (.a (.ref 8))),(38, .d (.it .i64)),(39, .d (.it .i64))],[(2, .cell (.ag (.li (.ag (.pr (.ag (.pr .bo .st)) .st)))) true),(8, .own (.ag (.pr (.ag (.pr .bo .st)) .st)) true)]⟩
noncomputable def C0O:Sk:=⟨[(7, .d (.it .i64)),(8, .f (.a (.ref 8))),(10, .d (.it .i64))],[(8, .own (.ag (.pr (.ag (.pr .bo .st)) .st)) true)]⟩
noncomputable def B9B:Sk:=⟨[(7, .d (.it .i64)),(8, .f (.a (.ref 8))),(10, .d (.it .i64)),(11, .d (.it .i64))],[(8, .own (.ag (.pr (.ag (.pr .bo .st)) .st)) true)]⟩
noncomputable def C4h:Sk:=⟨[(8, .f (.a (.ref 8))),(12, .d (.li (.ag (.pr (.ag (.pr .bo .st)) .st)))),(13, .d (.it .i64))],[(8, .own (.ag (.pr (.ag (.pr .bo .st)) .st)) true)]⟩
noncomputable def B0o (gl0:(List (List TQ))→Int→Int→Int→(List TQ)→(List TQ)→Option O5) (gl1:Int→Int→(List TQ)→Option O5) (gl2:Int→Int→Int→(List TQ)→Option O5) (gl3:(List TQ)→Int→(List TQ)→Option O5):List (C6 O5):=[⟨11,C7h,fun s=>gl0 s.1.1 s.1.2.1 s.1.2.2.1 s.1.2.2.2.1 s.2.1 s.2.2.1⟩,⟨16,C0O,fun s=>gl1 s.1.1 s.1.2.1 s.2.1⟩,⟨19,B9B,fun s=>gl2 s.1.1 s.1.2.1 s.1.2.2.1 s.2.1⟩,⟨24,C4h,fun s=>gl3 s.1.1 s.1.2.1 s.2.1⟩]
noncomputable def A9d (c83:(List TQ)→(List (List (List TQ)))→Option T9) (c84:(List TQ)→(List TQ)→Option R84) (c85:(List TQ)→(List (List TQ))→(List TQ)→Option R85) (c86:(List Int)→Option X6) (c87:TQ→TQ→Option R87) (c88:TQ→TQ→Option R88) (c89:Int→Option S5) (c90:(List TQ)→(List TQ)→Option X1) (c91:(List TQ)→(List TQ)→Option M6) (c92:(List TQ)→Option M8) (c93:(List TQ)→Option R93):List FE:=[A9R c83,D3j c84,D4i c85,B2C c86,D1D c87,B7x c88,A4K c89,B1I c90,B2b c91,A4L c92,D5m c93]
section
variable (gl0:(List (List TQ))→Int→Int→Int→(List TQ)→(List TQ)→Option O5) (gl1:Int→Int→(List TQ)→Option O5) (gl2:Int→Int→Int→(List TQ)→Option O5) (gl3:(List TQ)→Int→(List TQ)→Option O5) (c83:(List TQ)→(List (List (List TQ)))→Option T9) (c84:(List TQ)→(List TQ)→Option R84) (c85:(List TQ)→(List (List TQ))→(List TQ)→Option R85) (c86:(List Int)→Option X6) (c87:TQ→TQ→Option R87) (c88:TQ→TQ→Option R88) (c89:Int→Option S5) (c90:(List TQ)→(List TQ)→Option X1) (c91:(List TQ)→(List TQ)→Option M6) (c92:(List TQ)→Option M8) (c93:(List TQ)→Option R93)
noncomputable def C2i (x1:(List (List TQ))) (x7:Int) (x38:Int) (x39:Int) (x2:(List TQ)) (x8:(List TQ)):Option O5:=if x39<x38 then((c86 ([x39]:List Int)).bind fun r1=>((c85 x2 x1 r1).bind fun r2=>((c84 x2 r2).bind fun r3=>(if 0≤x39 then(if x39<(x8.length:Int)then(gl0 x1 x7 x38 (wrap64 (x39+1)) x2 (x8.set (x39:Int).toNat (r3.1,r3.2)))else(none))else(none)))))else(gl1 x7 1 x8)
theorem E1W (s0:C3 D17.ask.bl) (s:C7h.T):D17.po E0 (A9d c83 c84 c85 c86 c87 c88 c89 c90 c91 c92 c93) (B0o gl0 gl1 gl2 gl3) s0 0 (C7h.mk' s)=C2i gl0 gl1 c84 c85 c86 s.1.1 s.1.2.1 s.1.2.2.1 s.1.2.2.2.1 s.2.1 s.2.2.1:=by kernel_rfl
noncomputable def C6N (x7:Int) (x10:Int) (x8:(List TQ)):Option O5:=if x10≤x7 then(gl2 x7 x10 x7 x8)else(gl3 ([]:List TQ) x7 x8)
theorem E6o (s0:C3 D17.ask.bl) (s:C0O.T):D17.po E0 (A9d c83 c84 c85 c86 c87 c88 c89 c90 c91 c92 c93) (B0o gl0 gl1 gl2 gl3) s0 1 (C0O.mk' s)=C6N gl2 gl3 s.1.1 s.1.2.1 s.2.1:=by kernel_rfl
noncomputable def C1Y (x7:Int) (x10:Int) (x11:Int) (x8:(List TQ)):Option O5:=if x11≥x10 then(if 0≤x11 then(if x11<(x8.length:Int)then(if 0≤wrap64 (x11-1)then(if wrap64 (x11-1)<(x8.length:Int)then((c88 (C2 ((false,(⟨#[]⟩:ByteArray)),(⟨#[]⟩:ByteArray)) x8 x11) (C2 ((false,(⟨#[]⟩:ByteArray)),(⟨#[]⟩:ByteArray)) x8 (wrap64 (x11-1)))).bind fun r1=>((c89 x10).bind fun r2=>((c87 (r1.1,r1.2) (r2.1,r2.2)).bind fun r3=>(if 0≤x11 then(if x11<(x8.length:Int)then(gl2 x7 x10 (wrap64 (x11-1)) (x8.set (x11:Int).toNat (r3.1,r3.2)))else(none))else(none)))))else(none))else(none))else(none))else(none))else(gl1 x7 (wrap64 (x10+1)) x8)
theorem E0z (s0:C3 D17.ask.bl) (s:B9B.T):D17.po E0 (A9d c83 c84 c85 c86 c87 c88 c89 c90 c91 c92 c93) (B0o gl0 gl1 gl2 gl3) s0 2 (B9B.mk' s)=C1Y gl1 gl2 c87 c88 c89 s.1.1 s.1.2.1 s.1.2.2.1 s.2.1:=by kernel_rfl
noncomputable def C5M (x12:(List TQ)) (x13:Int) (x8:(List TQ)):Option O5:=if x13≥0 then((c86 ([wrap64 (0-x13),1]:List Int)).bind fun r1=>((c91 x12 r1).bind fun r2=>(if 0≤x13 then(if x13<(x8.length:Int)then((c92 ([C2 ((false,(⟨#[]⟩:ByteArray)),(⟨#[]⟩:ByteArray)) x8 x13]:List TQ)).bind fun r3=>((c90 r2 r3).bind fun r4=>(gl3 r4 (wrap64 (x13-1)) x8)))else(none))else(none))))else((c93 x12).bind fun r5=>(B2 (r5) (some (([]:List TQ),4)) (some (x12,0))))
theorem E7e (s0:C3 D17.ask.bl) (s:C4h.T):D17.po E0 (A9d c83 c84 c85 c86 c87 c88 c89 c90 c91 c92 c93) (B0o gl0 gl1 gl2 gl3) s0 3 (C4h.mk' s)=C5M gl3 c86 c90 c91 c92 c93 s.1.1 s.1.2.1 s.2.1:=by kernel_rfl
noncomputable def B17 (x0:(List TQ)) (x1:(List (List TQ))):Option O5:=(c83 x0 ([x1]:List (List (List TQ)))).bind fun r1=>(if r1≠0 then(some (([]:List TQ),r1))else(if(x1.length:Int)=0 then(some (([]:List TQ),0))else(if wrap64 ((wrap64 ((x0.length:Int)-1))*(wrap64 ((x1.length:Int)-1)))>64 then(some (([]:List TQ),4))else(if 0≤wrap64 ((wrap64 ((wrap64 ((x0.length:Int)-1))*(wrap64 ((x1.length:Int)-1))))+1)then(if wrap64 ((wrap64 ((wrap64 ((x0.length:Int)-1))*(wrap64 ((x1.length:Int)-1))))+1)≤wrap64 ((wrap64 ((wrap64 ((x0.length:Int)-1))*(wrap64 ((x1.length:Int)-1))))+1)then(if(wrap64 ((wrap64 ((wrap64 ((x0.length:Int)-1))*(wrap64 ((x1.length:Int)-1))))+1):Int).toNat≤7036874417766 then(gl0 x1 (wrap64 ((wrap64 ((x0.length:Int)-1))*(wrap64 ((x1.length:Int)-1)))) ((List.replicate (wrap64 ((wrap64 ((wrap64 ((x0.length:Int)-1))*(wrap64 ((x1.length:Int)-1))))+1):Int).toNat ((false,(⟨#[]⟩:ByteArray)),(⟨#[]⟩:ByteArray))).length:Int) 0 x0 (List.replicate (wrap64 ((wrap64 ((wrap64 ((x0.length:Int)-1))*(wrap64 ((x1.length:Int)-1))))+1):Int).toNat ((false,(⟨#[]⟩:ByteArray)),(⟨#[]⟩:ByteArray))))else(none))else(none))else(none)))))
theorem e17 (s:D17.ask.T):D17.ev E0 (A9d c83 c84 c85 c86 c87 c88 c89 c90 c91 c92 c93) (B0o gl0 gl1 gl2 gl3) s=B17 gl0 c83 s.1.1 s.1.2.1:=by kernel_rfl
end
noncomputable def C2g:Sk:=⟨[(0, .d (.li (.ag (.pr (.ag (.pr .bo .st)) .st)))),(1, .d (.li (.ag (.pr (.ag (.pr .bo .st)) .st)))),(12, .d (.it .i64)),(13, .d (.it .i64))],[]⟩
noncomputable def B8s (gl0:(List TQ)→(List TQ)→Int→Int→Option R18):List (C6 R18):=[⟨4,C2g,fun s=>gl0 s.1.1 s.1.2.1 s.1.2.2.1 s.1.2.2.2.1⟩]
section
variable (gl0:(List TQ)→(List TQ)→Int→Int→Option R18)
noncomputable def A6X (x0:(List TQ)) (x1:(List TQ)) (x12:Int) (x13:Int):Option R18:=if x13<x12 then(if 0≤x13 then(if x13<(x0.length:Int)then(if 0≤x13 then(if x13<(x1.length:Int)then(B2 ((!((((((C2 ((false,(⟨#[]⟩:ByteArray)),(⟨#[]⟩:ByteArray)) x0 x13).1).1)==(((C2 ((false,(⟨#[]⟩:ByteArray)),(⟨#[]⟩:ByteArray)) x1 x13).1).1))&&(E6 (((C2 ((false,(⟨#[]⟩:ByteArray)),(⟨#[]⟩:ByteArray)) x0 x13).1).2) (((C2 ((false,(⟨#[]⟩:ByteArray)),(⟨#[]⟩:ByteArray)) x1 x13).1).2)))&&(E6 ((C2 ((false,(⟨#[]⟩:ByteArray)),(⟨#[]⟩:ByteArray)) x0 x13).2) ((C2 ((false,(⟨#[]⟩:ByteArray)),(⟨#[]⟩:ByteArray)) x1 x13).2))))) (some false) (gl0 x0 x1 x12 (wrap64 (x13+1))))else(none))else(none))else(none))else(none))else(some true)
theorem E3i (s0:C3 D18.ask.bl) (s:C2g.T):D18.po E0 [] (B8s gl0) s0 0 (C2g.mk' s)=A6X gl0 s.1.1 s.1.2.1 s.1.2.2.1 s.1.2.2.2.1:=by kernel_rfl
noncomputable def B18 (x0:(List TQ)) (x1:(List TQ)):Option R18:=if(x0.length:Int)≠(x1.length:Int)then(some false)else(gl0 x0 x1 (x0.length:Int) 0)
theorem e18 (s:D18.ask.T):D18.ev E0 [] (B8s gl0) s=B18 gl0 s.1.1 s.1.2.1:=by kernel_rfl
end
noncomputable def C5S:Sk:=⟨[(0, .d (.li (.ag (.pr (.ag (.pr .bo .st)) .st)))),(3, .d (.it .i64))],[]⟩
noncomputable def C6i (gl0:(List TQ)→Int→Option b8):List (C6 b8):=[⟨2,C5S,fun s=>gl0 s.1.1 s.1.2.1⟩]
noncomputable def C7r (c123:TQ→Option A5W):List FE:=[C3Y c123]
section
variable (gl0:(List TQ)→Int→Option b8) (c123:TQ→Option A5W)
noncomputable def A7Y (x0:(List TQ)) (x3:Int):Option b8:=if x3>0 then(if 0≤wrap64 (x3-1)then(if wrap64 (x3-1)<(x0.length:Int)then((c123 (C2 ((false,(⟨#[]⟩:ByteArray)),(⟨#[]⟩:ByteArray)) x0 (wrap64 (x3-1)))).bind fun r1=>(if r1=0 then(gl0 x0 (wrap64 (x3-1)))else(if(0:Int)≤0 then(if 0≤x3 then(if x3≤(x0.length:Int)then(if(x0.length:Int)≤(x0.length:Int)then(if(([]:List TQ).length+(slice_ x0 0 x3).length)*40≤140737488355328 then(some (([]:List TQ)++(slice_ x0 0 x3)))else(none))else(none))else(none))else(none))else(none))))else(none))else(none))else(if(0:Int)≤0 then(if 0≤x3 then(if x3≤(x0.length:Int)then(if(x0.length:Int)≤(x0.length:Int)then(if(([]:List TQ).length+(slice_ x0 0 x3).length)*40≤140737488355328 then(some (([]:List TQ)++(slice_ x0 0 x3)))else(none))else(none))else(none))else(none))else(none))
theorem D8F (s0:C3 D48.ask.bl) (s:C5S.T):D48.po E0 (C7r c123) (C6i gl0) s0 0 (C5S.mk' s)=A7Y gl0 c123 s.1.1 s.1.2.1:=by kernel_rfl
noncomputable def B48 (x0:(List TQ)):Option b8:=gl0 x0 (x0.length:Int)
theorem e48 (s:D48.ask.T):D48.ev E0 (C7r c123) (C6i gl0) s=B48 gl0 s.1.1:=by kernel_rfl
end
noncomputable def C2k:Sk:=⟨[(3, .f (.a (.ref 3))),(6, .d (.li (.it .i64))),(7, .d (.it .i64)),(8, .d (.it .i64))],[(3, .own (.ag (.pr (.ag (.pr .bo .st)) .st)) true)]⟩
noncomputable def C4X (gl0:(List Int)→Int→Int→(List TQ)→Option R22):List (C6 R22):=[⟨3,C2k,fun s=>gl0 s.1.1 s.1.2.1 s.1.2.2.1 s.2.1⟩]
noncomputable def C1b (c48:(List TQ)→Option b8) (c81:Int→Option R81):List FE:=[B4R c48,B2K c81]
section
variable (gl0:(List Int)→Int→Int→(List TQ)→Option R22) (c48:(List TQ)→Option b8) (c81:Int→Option R81)
noncomputable def C7Z (x6:(List Int)) (x7:Int) (x8:Int) (x3:(List TQ)):Option R22:=if x8<x7 then(if 0≤x8 then(if x8<(x6.length:Int)then((c81 (rd x6 x8)).bind fun r1=>(if(x3.length+1)*40≤140737488355328 then(gl0 x6 x7 (wrap64 (x8+1)) (x3++([(r1.1,r1.2)]:List TQ)))else(none)))else(none))else(none))else((c48 x3).bind fun r2=>(some r2))
theorem F0B (s0:C3 D22.ask.bl) (s:C2k.T):D22.po E0 (C1b c48 c81) (C4X gl0) s0 0 (C2k.mk' s)=C7Z gl0 c48 c81 s.1.1 s.1.2.1 s.1.2.2.1 s.2.1:=by kernel_rfl
noncomputable def B22 (x0:(List Int)):Option R22:=gl0 x0 (x0.length:Int) 0 ([]:List TQ)
theorem e22 (s:D22.ask.T):D22.ev E0 (C1b c48 c81) (C4X gl0) s=B22 gl0 s.1.1:=by kernel_rfl
end
noncomputable def C6x:Sk:=⟨[(3, .f (.a (.ptr 3 0 []))),(5, .f (.a (.ref 5))),(11, .d (.li (.ag (.pr (.ag (.pr .bo .st)) .st)))),(12, .d (.it .i64)),(13, .d (.it .i64))],[(3, .cell (.ag (.pr (.ag (.pr .bo .st)) .st)) true),(5, .own (.ag (.pr (.ag (.pr .bo .st)) .st)) true)]⟩
noncomputable def C0E (gl0:(List TQ)→Int→Int→TQ→(List TQ)→Option o3):List (C6 o3):=[⟨3,C6x,fun s=>gl0 s.1.1 s.1.2.1 s.1.2.2.1 s.2.1 s.2.2.1⟩]
noncomputable def C2j (c92:(List TQ)→Option M8) (c142:TQ→TQ→Option f9):List FE:=[A4L c92,A9H c142]
section
variable (gl0:(List TQ)→Int→Int→TQ→(List TQ)→Option o3) (c92:(List TQ)→Option M8) (c142:TQ→TQ→Option f9)
noncomputable def A5u (x11:(List TQ)) (x12:Int) (x13:Int) (x3:TQ) (x5:(List TQ)):Option o3:=if x13<x12 then(if 0≤x13 then(if x13<(x11.length:Int)then((c142 (C2 ((false,(⟨#[]⟩:ByteArray)),(⟨#[]⟩:ByteArray)) x11 x13) x3).bind fun r1=>(if 0≤x13 then(if x13<(x5.length:Int)then(gl0 x11 x12 (wrap64 (x13+1)) x3 (x5.set (x13:Int).toNat (r1.1,r1.2)))else(none))else(none)))else(none))else(none))else((c92 x5).bind fun r2=>(some r2))
theorem D7c (s0:C3 A9S.ask.bl) (s:C6x.T):A9S.po E0 (C2j c92 c142) (C0E gl0) s0 0 (C6x.mk' s)=A5u gl0 c92 c142 s.1.1 s.1.2.1 s.1.2.2.1 s.2.1 s.2.2.1:=by kernel_rfl
noncomputable def B1Z (x0:(List TQ)) (x1:TQ):Option o3:=if 0≤(x0.length:Int)then(if(x0.length:Int)≤(x0.length:Int)then(if((x0.length:Int):Int).toNat≤7036874417766 then(gl0 x0 (x0.length:Int) 0 x1 (List.replicate ((x0.length:Int):Int).toNat ((false,(⟨#[]⟩:ByteArray)),(⟨#[]⟩:ByteArray))))else(none))else(none))else(none)
theorem D9t (s:A9S.ask.T):A9S.ev E0 (C2j c92 c142) (C0E gl0) s=B1Z gl0 s.1.1 s.1.2.1:=by kernel_rfl
end
noncomputable def C7W:Sk:=⟨[(0, .d (.li (.ag (.pr (.ag (.pr .bo .st)) .st)))),(1, .d (.li (.ag (.pr (.ag (.pr .bo .st)) .st)))),(5, .f (.a (.ref 5))),(14, .d (.it .i64)),(15, .d (.it .i64))],[(5, .own (.ag (.pr (.ag (.pr .bo .st)) .st)) true)]⟩
noncomputable def C3D (gl0:(List TQ)→(List TQ)→Int→Int→(List TQ)→Option o4):List (C6 o4):=[⟨3,C7W,fun s=>gl0 s.1.1 s.1.2.1 s.1.2.2.1 s.1.2.2.2.1 s.2.1⟩]
noncomputable def C1i (c88:TQ→TQ→Option R88) (c92:(List TQ)→Option M8) (c151:(List TQ)→Int→Option A4n):List FE:=[B7x c88,A4L c92,B8k c151]
section
variable (gl0:(List TQ)→(List TQ)→Int→Int→(List TQ)→Option o4) (c88:TQ→TQ→Option R88) (c92:(List TQ)→Option M8) (c151:(List TQ)→Int→Option A4n)
noncomputable def C1d (x0:(List TQ)) (x1:(List TQ)) (x14:Int) (x15:Int) (x5:(List TQ)):Option o4:=if x15<x14 then((c151 x0 x15).bind fun r1=>((c151 x1 x15).bind fun r2=>((c88 (r1.1,r1.2) (r2.1,r2.2)).bind fun r3=>(if 0≤x15 then(if x15<(x5.length:Int)then(gl0 x0 x1 x14 (wrap64 (x15+1)) (x5.set (x15:Int).toNat (r3.1,r3.2)))else(none))else(none)))))else((c92 x5).bind fun r4=>(some r4))
theorem E3A (s0:C3 A9y.ask.bl) (s:C7W.T):A9y.po E0 (C1i c88 c92 c151) (C3D gl0) s0 0 (C7W.mk' s)=C1d gl0 c88 c92 c151 s.1.1 s.1.2.1 s.1.2.2.1 s.1.2.2.2.1 s.2.1:=by kernel_rfl
noncomputable def C2o (x0:(List TQ)) (x1:(List TQ)):Option o4:=if 0≤mx (x0.length:Int) (x1.length:Int)then(if mx (x0.length:Int) (x1.length:Int)≤mx (x0.length:Int) (x1.length:Int)then(if(mx (x0.length:Int) (x1.length:Int):Int).toNat≤7036874417766 then(gl0 x0 x1 ((List.replicate (mx (x0.length:Int) (x1.length:Int):Int).toNat ((false,(⟨#[]⟩:ByteArray)),(⟨#[]⟩:ByteArray))).length:Int) 0 (List.replicate (mx (x0.length:Int) (x1.length:Int):Int).toNat ((false,(⟨#[]⟩:ByteArray)),(⟨#[]⟩:ByteArray))))else(none))else(none))else(none)
theorem D7e (s:A9y.ask.T):A9y.ev E0 (C1i c88 c92 c151) (C3D gl0) s=C2o gl0 s.1.1 s.1.2.1:=by kernel_rfl
end
noncomputable def B9L:Sk:=⟨[(0, .d (.li (.ag (.pr (.ag (.pr .bo .st)) .st)))),(6, .d (.li (.ag (.pr (.ag (.pr .bo .st)) .st)))),(7, .d (.li (.ag (.pr (.ag (.pr .bo .st)) .st)))),(8, .d (.li (.ag (.pr (.ag (.pr .bo .st)) .st)))),(9, .d (.li (.ag (.pr (.ag (.pr .bo .st)) .st))))],[]⟩
noncomputable def C0N (gl0:(List TQ)→(List TQ)→(List TQ)→(List TQ)→(List TQ)→Option A0E):List (C6 A0E):=[⟨4,B9L,fun s=>gl0 s.1.1 s.1.2.1 s.1.2.2.1 s.1.2.2.2.1 s.1.2.2.2.2.1⟩]
noncomputable def C3W (c86:(List Int)→Option X6) (c91:(List TQ)→(List TQ)→Option M6) (c137:(List TQ)→TQ→Option o3) (c144:(List TQ)→(List TQ)→Option O9) (c147:TQ→Option A2o) (c165:(List TQ)→(List TQ)→Option A2s) (c166:(List TQ)→(List TQ)→Option o4):List FE:=[B2C c86,B2b c91,C6G c137,B5Z c144,B4S c147,B8M c165,C0h c166]
section
variable (gl0:(List TQ)→(List TQ)→(List TQ)→(List TQ)→(List TQ)→Option A0E) (c86:(List Int)→Option X6) (c91:(List TQ)→(List TQ)→Option M6) (c137:(List TQ)→TQ→Option o3) (c144:(List TQ)→(List TQ)→Option O9) (c147:TQ→Option A2o) (c165:(List TQ)→(List TQ)→Option A2s) (c166:(List TQ)→(List TQ)→Option o4)
noncomputable def C1Z (x0:(List TQ)) (x6:(List TQ)) (x7:(List TQ)) (x8:(List TQ)) (x9:(List TQ)):Option A0E:=if(x7.length:Int)>1 then((c144 x6 x7).bind fun r1=>((c91 r1.1 x9).bind fun r2=>((c166 x8 r2).bind fun r3=>(gl0 x0 x7 r1.2 x9 r3))))else(if(x7.length:Int)=0 then(some (([]:List TQ),false))else(if(0:Int)≤0 then(if 0<(x7.length:Int)then((c147 (C2 ((false,(⟨#[]⟩:ByteArray)),(⟨#[]⟩:ByteArray)) x7 0)).bind fun r4=>((c137 x9 (r4.1,r4.2)).bind fun r5=>((c165 x0 r5).bind fun r6=>(some (r6,true)))))else(none))else(none)))
theorem F2I (s0:C3 A9O.ask.bl) (s:B9L.T):A9O.po E0 (C3W c86 c91 c137 c144 c147 c165 c166) (C0N gl0) s0 0 (B9L.mk' s)=C1Z gl0 c91 c137 c144 c147 c165 c166 s.1.1 s.1.2.1 s.1.2.2.1 s.1.2.2.2.1 s.1.2.2.2.2.1:=by kernel_rfl
noncomputable def B9y (x0:(List TQ)) (x1:(List TQ)):Option A0E:=(c165 x0 x1).bind fun r1=>((c86 ([1]:List Int)).bind fun r2=>(gl0 x0 x0 r1 ([]:List TQ) r2))
theorem E6Y (s:A9O.ask.T):A9O.ev E0 (C3W c86 c91 c137 c144 c147 c165 c166) (C0N gl0) s=B9y gl0 c86 c165 s.1.1 s.1.2.1:=by kernel_rfl
end
noncomputable def C0f:Sk:=⟨[(0, .d (.li (.li (.ag (.pr (.ag (.pr .bo .st)) .st))))),(3, .d (.it .i64))],[]⟩
noncomputable def B8t (gl0:(List (List TQ))→Int→Option O3):List (C6 O3):=[⟨2,C0f,fun s=>gl0 s.1.1 s.1.2.1⟩]
section
variable (gl0:(List (List TQ))→Int→Option O3)
noncomputable def A7A (x0:(List (List TQ))) (x3:Int):Option O3:=if x3>0 then(if 0≤wrap64 (x3-1)then(if wrap64 (x3-1)<(x0.length:Int)then(if((C2 ([]:List TQ) x0 (wrap64 (x3-1))).length:Int)=0 then(gl0 x0 (wrap64 (x3-1)))else(if(0:Int)≤0 then(if 0≤x3 then(if x3≤x3 then(if x3≤(x0.length:Int)then(some (slice_ x0 0 x3))else(none))else(none))else(none))else(none)))else(none))else(none))else(if(0:Int)≤0 then(if 0≤x3 then(if x3≤x3 then(if x3≤(x0.length:Int)then(some (slice_ x0 0 x3))else(none))else(none))else(none))else(none))
theorem F2W (s0:C3 A8t.ask.bl) (s:C0f.T):A8t.po E0 [] (B8t gl0) s0 0 (C0f.mk' s)=A7A gl0 s.1.1 s.1.2.1:=by kernel_rfl
noncomputable def B2G (x0:(List (List TQ))):Option O3:=gl0 x0 (x0.length:Int)
theorem E4j (s:A8t.ask.T):A8t.ev E0 [] (B8t gl0) s=B2G gl0 s.1.1:=by kernel_rfl
end
noncomputable def C0X:Sk:=⟨[(2, .d (.li (.li (.ag (.pr (.ag (.pr .bo .st)) .st))))),(3, .d (.li (.ag (.pr (.ag (.pr .bo .st)) .st)))),(4, .f (.a (.ptr 4 0 []))),(10, .f (.a (.ref 10))),(11, .d (.it .i64)),(12, .f (.a (.ref 12))),(13, .d (.it .i64))],[(4, .cell (.ag (.li (.ag (.pr (.ag (.pr .bo .st)) .st)))) true),(10, .own (.li (.ag (.pr (.ag (.pr .bo .st)) .st))) true),(12, .own (.li (.ag (.pr (.ag (.pr .bo .st)) .st))) true)]⟩
noncomputable def C5G:Sk:=⟨[(2, .d (.li (.li (.ag (.pr (.ag (.pr .bo .st)) .st))))),(3, .d (.li (.ag (.pr (.ag (.pr .bo .st)) .st)))),(4, .f (.a (.ptr 4 0 []))),(10, .f (.a (.ref 10))),(11, .d (.it .i64)),(12, .f (.a (.ref 12))),(13, .d (.it .i64)),(14, .d (.li (.ag (.pr (.ag (.pr .bo .st)) .st)))),(60, .d (.it .i64)),(61, .d (.it .i64))],[(4, .cell (.ag (.li (.ag (.pr (.ag (.pr .bo .st)) .st)))) true),(10, .own (.li (.ag (.pr (.ag (.pr .bo .st)) .st))) true),(12, .own (.li (.ag (.pr (.ag (.pr .bo .st)) .st))) true)]⟩
noncomputable def B8I (gl0:(List (List TQ))→(List TQ)→Int→Int→(List TQ)→(List (List TQ))→(List (List TQ))→Option X7) (gl1:(List (List TQ))→(List TQ)→Int→Int→(List TQ)→Int→Int→(List TQ)→(List (List TQ))→(List (List TQ))→Option X7):List (C6 X7):=[⟨7,C0X,fun s=>gl0 s.1.1 s.1.2.1 s.1.2.2.1 s.1.2.2.2.1 s.2.1 s.2.2.1 s.2.2.2.1⟩,⟨13,C5G,fun s=>gl1 s.1.1 s.1.2.1 s.1.2.2.1 s.1.2.2.2.1 s.1.2.2.2.2.1 s.1.2.2.2.2.2.1 s.1.2.2.2.2.2.2.1 s.2.1 s.2.2.1 s.2.2.2.1⟩]
noncomputable def B7E (c122:(List (List TQ))→Option O3) (c146:(List TQ)→(List TQ)→(List TQ)→Option A2z) (c166:(List TQ)→(List TQ)→Option o4):List FE:=[A5Q c122,B6v c146,C0h c166]
section
variable (gl0:(List (List TQ))→(List TQ)→Int→Int→(List TQ)→(List (List TQ))→(List (List TQ))→Option X7) (gl1:(List (List TQ))→(List TQ)→Int→Int→(List TQ)→Int→Int→(List TQ)→(List (List TQ))→(List (List TQ))→Option X7) (c122:(List (List TQ))→Option O3) (c146:(List TQ)→(List TQ)→(List TQ)→Option A2z) (c166:(List TQ)→(List TQ)→Option o4)
noncomputable def C4i (x2:(List (List TQ))) (x3:(List TQ)) (x11:Int) (x13:Int) (x4:(List TQ)) (x10:(List (List TQ))) (x12:(List (List TQ))):Option X7:=if x13≥0 then(if 0≤wrap64 ((wrap64 (x13+x11))-1)then(if wrap64 ((wrap64 (x13+x11))-1)<(x10.length:Int)then((c146 x4 (C2 ([]:List TQ) x10 (wrap64 ((wrap64 (x13+x11))-1))) x3).bind fun r1=>(if 0≤x13 then(if x13<(x12.length:Int)then(if(r1.length:Int)=0 then(gl0 x2 x3 x11 (wrap64 (x13-1)) x4 x10 (x12.set (x13:Int).toNat r1))else(gl1 x2 x3 x11 x13 r1 (wrap64 (x11-1)) 0 x4 x10 (x12.set (x13:Int).toNat r1)))else(none))else(none)))else(none))else(none))else((c122 x12).bind fun r2=>(if(0:Int)≤0 then(if 0≤wrap64 (x11-1)then(if wrap64 (x11-1)≤(x10.length:Int)then(if(x10.length:Int)≤(x10.length:Int)then((c122 (slice_ x10 0 (wrap64 (x11-1)))).bind fun r3=>(some (r2,r3)))else(none))else(none))else(none))else(none)))
theorem E1b (s0:C3 A4V.ask.bl) (s:C0X.T):A4V.po E0 (B7E c122 c146 c166) (B8I gl0 gl1) s0 0 (C0X.mk' s)=C4i gl0 gl1 c122 c146 s.1.1 s.1.2.1 s.1.2.2.1 s.1.2.2.2.1 s.2.1 s.2.2.1 s.2.2.2.1:=by kernel_rfl
noncomputable def C2s (x2:(List (List TQ))) (x3:(List TQ)) (x11:Int) (x13:Int) (x14:(List TQ)) (x60:Int) (x61:Int) (x4:(List TQ)) (x10:(List (List TQ))) (x12:(List (List TQ))):Option X7:=if x61<x60 then(if 0≤wrap64 (x13+x61)then(if wrap64 (x13+x61)<(x10.length:Int)then(if 0≤x61 then(if x61<(x2.length:Int)then((c146 x4 x14 (C2 ([]:List TQ) x2 x61)).bind fun r1=>((c166 (C2 ([]:List TQ) x10 (wrap64 (x13+x61))) r1).bind fun r2=>(if 0≤wrap64 (x13+x61)then(if wrap64 (x13+x61)<(x10.length:Int)then(gl1 x2 x3 x11 x13 x14 x60 (wrap64 (x61+1)) x4 (x10.set (wrap64 (x13+x61):Int).toNat r2) x12)else(none))else(none))))else(none))else(none))else(none))else(none))else(gl0 x2 x3 x11 (wrap64 (x13-1)) x4 x10 x12)
theorem E7z (s0:C3 A4V.ask.bl) (s:C5G.T):A4V.po E0 (B7E c122 c146 c166) (B8I gl0 gl1) s0 1 (C5G.mk' s)=C2s gl0 gl1 c146 c166 s.1.1 s.1.2.1 s.1.2.2.1 s.1.2.2.2.1 s.1.2.2.2.2.1 s.1.2.2.2.2.2.1 s.1.2.2.2.2.2.2.1 s.2.1 s.2.2.1 s.2.2.2.1:=by kernel_rfl
noncomputable def C5P (x0:(List TQ)) (x1:(List (List TQ))) (x2:(List (List TQ))) (x3:(List TQ)):Option X7:=if(([]:List (List TQ)).length+x1.length)*24≤140737488355328 then(if(x1.length:Int)<(x2.length:Int)then((c122 (([]:List (List TQ))++x1)).bind fun r1=>(some (([]:List (List TQ)),r1)))else(if 0≤wrap64 ((wrap64 ((x1.length:Int)-(x2.length:Int)))+1)then(if wrap64 ((wrap64 ((x1.length:Int)-(x2.length:Int)))+1)≤wrap64 ((wrap64 ((x1.length:Int)-(x2.length:Int)))+1)then(if(wrap64 ((wrap64 ((x1.length:Int)-(x2.length:Int)))+1):Int).toNat≤11728124029610 then(gl0 x2 x3 (x2.length:Int) (wrap64 ((x1.length:Int)-(x2.length:Int))) x0 (([]:List (List TQ))++x1) (List.replicate (wrap64 ((wrap64 ((x1.length:Int)-(x2.length:Int)))+1):Int).toNat ([]:List TQ)))else(none))else(none))else(none)))else(none)
theorem D8G (s:A4V.ask.T):A4V.ev E0 (B7E c122 c146 c166) (B8I gl0 gl1) s=C5P gl0 c122 s.1.1 s.1.2.1 s.1.2.2.1 s.1.2.2.2.1:=by kernel_rfl
end
noncomputable def D5w (c153Large:(List TQ)→Option A5B):List FE:=[C5q c153Large]
section
variable (c153Large:(List TQ)→Option A5B)
noncomputable def C6j (x0:(List TQ)):Option A7x:=(c153Large x0).bind fun r1=>(some r1)
theorem D9A (s:B4z.ask.T):B4z.ev E0 (D5w c153Large) [] s=C6j c153Large s.1.1:=by kernel_rfl
end
noncomputable def C7x:Sk:=⟨[(0, .d (.li (.li (.ag (.pr (.ag (.pr .bo .st)) .st))))),(1, .f (.cl 176 [])),(7, .d (.it .i64)),(8, .d (.it .i64))],[]⟩
noncomputable def C3m (gl0:(List (List TQ))→Int→Int→Option A1L):List (C6 A1L):=[⟨2,C7x,fun s=>gl0 s.1.1 s.1.2.1 s.1.2.2.1⟩]
noncomputable def C1H (c176:(List TQ)→Option A7x):List FE:=[D4K c176]
section
variable (gl0:(List (List TQ))→Int→Int→Option A1L) (c176:(List TQ)→Option A7x)
noncomputable def A6N (x0:(List (List TQ))) (x7:Int) (x8:Int):Option A1L:=if x8<x7 then(if 0≤x8 then(if x8<(x0.length:Int)then((c176 (C2 ([]:List TQ) x0 x8)).bind fun r1=>(B2 (r1) (some x8) (gl0 x0 x7 (wrap64 (x8+1)))))else(none))else(none))else(some (-1))
theorem E0a (s0:C3 B0V.ask.bl) (s:C7x.T):B0V.po E0 (C1H c176) (C3m gl0) s0 0 (C7x.mk' s)=A6N gl0 c176 s.1.1 s.1.2.1 s.1.2.2.1:=by kernel_rfl
noncomputable def B3O (x0:(List (List TQ))):Option A1L:=gl0 x0 (x0.length:Int) 0
theorem E7R (s:B0V.ask.T):B0V.ev E0 (C1H c176) (C3m gl0) s=B3O gl0 s.1.1:=by kernel_rfl
end
noncomputable def D1I (c216Large:(List (List TQ))→Option A1L):List FE:=[D1r c216Large]
section
variable (c216Large:(List (List TQ))→Option A1L)
noncomputable def C1a (x0:(List (List TQ))):Option A8P:=(c216Large x0).bind fun r1=>(some (decide (r1≥0)))
theorem F2K (s:B5l.ask.T):B5l.ev E0 (D1I c216Large) [] s=C1a c216Large s.1.1:=by kernel_rfl
end
noncomputable def D0C (c175Large:(List (List TQ))→Option A8P):List FE:=[D4E c175Large]
section
variable (c175Large:(List (List TQ))→Option A8P)
noncomputable def C2E (x0:(List (List TQ))):Option A9T:=(c175Large x0).bind fun r1=>(some r1)
theorem E2g (s:B3y.ask.T):B3y.ev E0 (D0C c175Large) [] s=C2E c175Large s.1.1:=by kernel_rfl
end
noncomputable def D0o (c128:(List (List TQ))→Option A9T):List FE:=[D5j c128]
section
variable (c128:(List (List TQ))→Option A9T)
noncomputable def B1V (x0:(List (List TQ))):Option i5:=if(x0.length:Int)>65 then(some true)else((c128 x0).bind fun r1=>(some r1))
theorem E1K (s:B7m.ask.T):B7m.ev E0 (D0o c128) [] s=B1V c128 s.1.1:=by kernel_rfl
end
noncomputable def D3b (c83:(List TQ)→(List (List (List TQ)))→Option T9) (c106:(List TQ)→(List TQ)→Option A0E) (c107:(List TQ)→(List (List TQ))→(List (List TQ))→(List TQ)→Option X7) (c108:(List (List TQ))→Option i5):List FE:=[A9R c83,C7b c106,C7G c107,A9p c108]
section
variable (c83:(List TQ)→(List (List (List TQ)))→Option T9) (c106:(List TQ)→(List TQ)→Option A0E) (c107:(List TQ)→(List (List TQ))→(List (List TQ))→(List TQ)→Option X7) (c108:(List (List TQ))→Option i5)
noncomputable def B28 (x0:(List TQ)) (x1:(List (List TQ))) (x2:(List (List TQ))):Option R28:=(c83 x0 ([x1,x2]:List (List (List TQ)))).bind fun r1=>(if r1≠0 then(some (([]:List (List TQ)),([]:List (List TQ)),r1))else(if(x2.length:Int)=0 then(some (([]:List (List TQ)),([]:List (List TQ)),6))else(if 0≤wrap64 ((x2.length:Int)-1)then(if wrap64 ((x2.length:Int)-1)<(x2.length:Int)then((c106 x0 (C2 ([]:List TQ) x2 (wrap64 ((x2.length:Int)-1)))).bind fun r2=>(B2 ((!r2.2)) (some (([]:List (List TQ)),([]:List (List TQ)),6)) ((c107 x0 x1 x2 r2.1).bind fun r3=>((c108 r3.1).bind fun r4=>(B2 (r4) (some (([]:List (List TQ)),([]:List (List TQ)),4)) ((c108 r3.2).bind fun r5=>(B2 (r5) (some (([]:List (List TQ)),([]:List (List TQ)),4)) (some (r3.1,r3.2,0)))))))))else(none))else(none))))
theorem e28 (s:D28.ask.T):D28.ev E0 (D3b c83 c106 c107 c108) [] s=B28 c83 c106 c107 c108 s.1.1 s.1.2.1 s.1.2.2.1:=by kernel_rfl
end
noncomputable def C1O:Sk:=⟨[(0, .d (.li (.li (.ag (.pr (.ag (.pr .bo .st)) .st))))),(1, .d (.li (.li (.ag (.pr (.ag (.pr .bo .st)) .st))))),(12, .d (.it .i64)),(13, .d (.it .i64))],[]⟩
noncomputable def C7d (gl0:(List (List TQ))→(List (List TQ))→Int→Int→Option c9):List (C6 c9):=[⟨4,C1O,fun s=>gl0 s.1.1 s.1.2.1 s.1.2.2.1 s.1.2.2.2.1⟩]
noncomputable def C0Y (c18:(List TQ)→(List TQ)→Option R18):List FE:=[B8n c18]
section
variable (gl0:(List (List TQ))→(List (List TQ))→Int→Int→Option c9) (c18:(List TQ)→(List TQ)→Option R18)
noncomputable def A7d (x0:(List (List TQ))) (x1:(List (List TQ))) (x12:Int) (x13:Int):Option c9:=if x13<x12 then(if 0≤x13 then(if x13<(x0.length:Int)then(if 0≤x13 then(if x13<(x1.length:Int)then((c18 (C2 ([]:List TQ) x0 x13) (C2 ([]:List TQ) x1 x13)).bind fun r1=>(B2 ((!r1)) (some false) (gl0 x0 x1 x12 (wrap64 (x13+1)))))else(none))else(none))else(none))else(none))else(some true)
theorem E3J (s0:C3 D29.ask.bl) (s:C1O.T):D29.po E0 (C0Y c18) (C7d gl0) s0 0 (C1O.mk' s)=A7d gl0 c18 s.1.1 s.1.2.1 s.1.2.2.1 s.1.2.2.2.1:=by kernel_rfl
noncomputable def B29 (x0:(List (List TQ))) (x1:(List (List TQ))):Option c9:=if(x0.length:Int)≠(x1.length:Int)then(some false)else(gl0 x0 x1 (x0.length:Int) 0)
theorem e29 (s:D29.ask.T):D29.ev E0 (C0Y c18) (C7d gl0) s=B29 gl0 s.1.1 s.1.2.1:=by kernel_rfl
end
noncomputable def C1M:Sk:=⟨[(2, .d (.li (.ag (.pr (.ag (.pr .bo .st)) .st)))),(3, .f (.a (.ptr 3 0 []))),(7, .f (.a (.ref 7))),(13, .d (.li (.li (.ag (.pr (.ag (.pr .bo .st)) .st))))),(14, .d (.it .i64)),(15, .d (.it .i64))],[(3, .cell (.ag (.li (.ag (.pr (.ag (.pr .bo .st)) .st)))) true),(7, .own (.li (.ag (.pr (.ag (.pr .bo .st)) .st))) true)]⟩
noncomputable def C8R (gl0:(List TQ)→(List (List TQ))→Int→Int→(List TQ)→(List (List TQ))→Option A2F):List (C6 A2F):=[⟨3,C1M,fun s=>gl0 s.1.1 s.1.2.1 s.1.2.2.1 s.1.2.2.2.1 s.2.1 s.2.2.1⟩]
noncomputable def C5j (c122:(List (List TQ))→Option O3) (c146:(List TQ)→(List TQ)→(List TQ)→Option A2z):List FE:=[A5Q c122,B6v c146]
section
variable (gl0:(List TQ)→(List (List TQ))→Int→Int→(List TQ)→(List (List TQ))→Option A2F) (c122:(List (List TQ))→Option O3) (c146:(List TQ)→(List TQ)→(List TQ)→Option A2z)
noncomputable def C6T (x2:(List TQ)) (x13:(List (List TQ))) (x14:Int) (x15:Int) (x3:(List TQ)) (x7:(List (List TQ))):Option A2F:=if x15<x14 then(if 0≤x15 then(if x15<(x13.length:Int)then((c146 x3 (C2 ([]:List TQ) x13 x15) x2).bind fun r1=>(if 0≤x15 then(if x15<(x7.length:Int)then(gl0 x2 x13 x14 (wrap64 (x15+1)) x3 (x7.set (x15:Int).toNat r1))else(none))else(none)))else(none))else(none))else((c122 x7).bind fun r2=>(some r2))
theorem E2f (s0:C3 B0x.ask.bl) (s:C1M.T):B0x.po E0 (C5j c122 c146) (C8R gl0) s0 0 (C1M.mk' s)=C6T gl0 c122 c146 s.1.1 s.1.2.1 s.1.2.2.1 s.1.2.2.2.1 s.2.1 s.2.2.1:=by kernel_rfl
noncomputable def C2N (x0:(List TQ)) (x1:(List (List TQ))) (x2:(List TQ)):Option A2F:=if 0≤(x1.length:Int)then(if(x1.length:Int)≤(x1.length:Int)then(if((x1.length:Int):Int).toNat≤11728124029610 then(gl0 x2 x1 (x1.length:Int) 0 x0 (List.replicate ((x1.length:Int):Int).toNat ([]:List TQ)))else(none))else(none))else(none)
theorem D7s (s:B0x.ask.T):B0x.ev E0 (C5j c122 c146) (C8R gl0) s=C2N gl0 s.1.1 s.1.2.1 s.1.2.2.1:=by kernel_rfl
end
noncomputable def D3c (c106:(List TQ)→(List TQ)→Option A0E) (c131:(List TQ)→(List (List TQ))→(List TQ)→Option A2F):List FE:=[C7b c106,C8j c131]
section
variable (c106:(List TQ)→(List TQ)→Option A0E) (c131:(List TQ)→(List (List TQ))→(List TQ)→Option A2F)
noncomputable def B9M (x0:(List TQ)) (x1:(List (List TQ))):Option B0R:=if(x1.length:Int)=0 then(some (([]:List (List TQ)),true))else(if 0≤wrap64 ((x1.length:Int)-1)then(if wrap64 ((x1.length:Int)-1)<(x1.length:Int)then((c106 x0 (C2 ([]:List TQ) x1 (wrap64 ((x1.length:Int)-1)))).bind fun r1=>(B2 ((!r1.2)) (some (([]:List (List TQ)),false)) ((c131 x0 x1 r1.1).bind fun r2=>(some (r2,true)))))else(none))else(none))
theorem E0A (s:B4X.ask.T):B4X.ev E0 (D3c c106 c131) [] s=B9M c106 c131 s.1.1 s.1.2.1:=by kernel_rfl
end
noncomputable def C5d (x0:(List (List TQ))):Option A8w:=some x0
theorem E2E (s:B5S.ask.T):B5S.ev E0 [] [] s=C5d s.1.1:=by kernel_rfl
noncomputable def D4A (c108:(List (List TQ))→Option i5) (c112:(List (List TQ))→Option A8w):List FE:=[A9p c108,D5O c112]
section
variable (c108:(List (List TQ))→Option i5) (c112:(List (List TQ))→Option A8w)
noncomputable def C7p (x0:((List (List TQ))×Unit)):Option A9m:=(c112 x0.1).bind fun r1=>((c108 r1).bind fun r2=>(B2 (r2) (some (([]:List (List TQ)),4)) (some (r1,0))))
theorem D7a (s:B7Y.ask.T):B7Y.ev E0 (D4A c108 c112) [] s=C7p c108 c112 s.1.1:=by kernel_rfl
end
noncomputable def C7Q:Sk:=⟨[(3, .f (.a (.ptr 3 0 []))),(9, .f (.a (.ptr 9 0 [])))],[(3, .cell (.ag (.li (.ag (.pr (.ag (.pr .bo .st)) .st)))) true),(9, .cell (.ar (.pr (.li (.li (.ag (.pr (.ag (.pr .bo .st)) .st)))) (.li (.li (.ag (.pr (.ag (.pr .bo .st)) .st)))))) true)]⟩
noncomputable def C3u (gl0:(List TQ)→((List (List TQ))×(List (List TQ)))→Option R31):List (C6 R31):=[⟨5,C7Q,fun s=>gl0 s.2.1 s.2.2.1⟩]
noncomputable def C3q (c83:(List TQ)→(List (List (List TQ)))→Option T9) (c86:(List Int)→Option X6) (c107:(List TQ)→(List (List TQ))→(List (List TQ))→(List TQ)→Option X7) (c110:(List TQ)→(List (List TQ))→Option B0R) (c111Gcd:((List (List TQ))×Unit)→Option A9m):List FE:=[A9R c83,B2C c86,C7G c107,D4M c110,D3l c111Gcd]
section
variable (gl0:(List TQ)→((List (List TQ))×(List (List TQ)))→Option R31) (c83:(List TQ)→(List (List (List TQ)))→Option T9) (c86:(List Int)→Option X6) (c107:(List TQ)→(List (List TQ))→(List (List TQ))→(List TQ)→Option X7) (c110:(List TQ)→(List (List TQ))→Option B0R) (c111Gcd:((List (List TQ))×Unit)→Option A9m)
noncomputable def C2C (x3:(List TQ)) (x9:((List (List TQ))×(List (List TQ)))):Option R31:=if(x9.2.length:Int)>0 then((c110 x3 x9.2).bind fun r1=>(B2 ((!r1.2)) (some (([]:List (List TQ)),6)) ((c86 ([1]:List Int)).bind fun r2=>((c107 x3 x9.1 r1.1 r2).bind fun r3=>(gl0 x3 (r1.1,r3.2))))))else((c110 x3 x9.1).bind fun r4=>(B2 ((!r4.2)) (some (([]:List (List TQ)),6)) ((c111Gcd (r4.1,())).bind fun r5=>(some (r5.1,r5.2)))))
theorem E8D (s0:C3 D31.ask.bl) (s:C7Q.T):D31.po E0 (C3q c83 c86 c107 c110 c111Gcd) (C3u gl0) s0 0 (C7Q.mk' s)=C2C gl0 c86 c107 c110 c111Gcd s.2.1 s.2.2.1:=by kernel_rfl
noncomputable def B31 (x0:(List TQ)) (x1:(List (List TQ))) (x2:(List (List TQ))):Option R31:=(c83 x0 ([x1,x2]:List (List (List TQ)))).bind fun r1=>(if r1≠0 then(some (([]:List (List TQ)),r1))else(gl0 x0 (x1,x2)))
theorem e31 (s:D31.ask.T):D31.ev E0 (C3q c83 c86 c107 c110 c111Gcd) (C3u gl0) s=B31 gl0 c83 s.1.1 s.1.2.1 s.1.2.2.1:=by kernel_rfl
end
noncomputable def B9S (x0:(List (List TQ))) (x1:Int):Option A8Y:=if x1<(x0.length:Int)then(if 0≤x1 then(if x1<(x0.length:Int)then(some (C2 ([]:List TQ) x0 x1))else(none))else(none))else(some ([]:List TQ))
theorem D7p (s:B7U.ask.T):B7U.ev E0 [] [] s=B9S s.1.1 s.1.2.1:=by kernel_rfl
noncomputable def C1v:Sk:=⟨[(0, .d (.li (.li (.ag (.pr (.ag (.pr .bo .st)) .st))))),(1, .d (.li (.li (.ag (.pr (.ag (.pr .bo .st)) .st))))),(5, .f (.a (.ref 5))),(14, .d (.it .i64)),(15, .d (.it .i64))],[(5, .own (.li (.ag (.pr (.ag (.pr .bo .st)) .st))) true)]⟩
noncomputable def C7A (gl0:(List (List TQ))→(List (List TQ))→Int→Int→(List (List TQ))→Option A2M):List (C6 A2M):=[⟨3,C1v,fun s=>gl0 s.1.1 s.1.2.1 s.1.2.2.1 s.1.2.2.2.1 s.2.1⟩]
noncomputable def C3z (c90:(List TQ)→(List TQ)→Option X1) (c122:(List (List TQ))→Option O3) (c174:(List (List TQ))→Int→Option A8Y):List FE:=[B1I c90,A5Q c122,D1x c174]
section
variable (gl0:(List (List TQ))→(List (List TQ))→Int→Int→(List (List TQ))→Option A2M) (c90:(List TQ)→(List TQ)→Option X1) (c122:(List (List TQ))→Option O3) (c174:(List (List TQ))→Int→Option A8Y)
noncomputable def C2H (x0:(List (List TQ))) (x1:(List (List TQ))) (x14:Int) (x15:Int) (x5:(List (List TQ))):Option A2M:=if x15<x14 then((c174 x0 x15).bind fun r1=>((c174 x1 x15).bind fun r2=>((c90 r1 r2).bind fun r3=>(if 0≤x15 then(if x15<(x5.length:Int)then(gl0 x0 x1 x14 (wrap64 (x15+1)) (x5.set (x15:Int).toNat r3))else(none))else(none)))))else((c122 x5).bind fun r4=>(some r4))
theorem E2I (s0:C3 A9Q.ask.bl) (s:C1v.T):A9Q.po E0 (C3z c90 c122 c174) (C7A gl0) s0 0 (C1v.mk' s)=C2H gl0 c90 c122 c174 s.1.1 s.1.2.1 s.1.2.2.1 s.1.2.2.2.1 s.2.1:=by kernel_rfl
noncomputable def C6u (x0:(List (List TQ))) (x1:(List (List TQ))):Option A2M:=if 0≤mx (x0.length:Int) (x1.length:Int)then(if mx (x0.length:Int) (x1.length:Int)≤mx (x0.length:Int) (x1.length:Int)then(if(mx (x0.length:Int) (x1.length:Int):Int).toNat≤11728124029610 then(gl0 x0 x1 ((List.replicate (mx (x0.length:Int) (x1.length:Int):Int).toNat ([]:List TQ)).length:Int) 0 (List.replicate (mx (x0.length:Int) (x1.length:Int):Int).toNat ([]:List TQ)))else(none))else(none))else(none)
theorem D8E (s:A9Q.ask.T):A9Q.ev E0 (C3z c90 c122 c174) (C7A gl0) s=C6u gl0 s.1.1 s.1.2.1:=by kernel_rfl
end
noncomputable def C2u:Sk:=⟨[(2, .d (.li (.li (.ag (.pr (.ag (.pr .bo .st)) .st))))),(3, .f (.a (.ptr 3 0 []))),(7, .f (.a (.ref 7))),(28, .d (.li (.li (.ag (.pr (.ag (.pr .bo .st)) .st))))),(29, .d (.it .i64)),(30, .d (.it .i64))],[(3, .cell (.ag (.li (.ag (.pr (.ag (.pr .bo .st)) .st)))) true),(7, .own (.li (.ag (.pr (.ag (.pr .bo .st)) .st))) true)]⟩
noncomputable def B8T:Sk:=⟨[(2, .d (.li (.li (.ag (.pr (.ag (.pr .bo .st)) .st))))),(3, .f (.a (.ptr 3 0 []))),(7, .f (.a (.ref 7))),(8, .d (.it .i64)),(9, .d (.li (.ag (.pr (.ag (.pr .bo .st)) .st)))),(28, .d (.li (.li (.ag (.pr (.ag (.pr .bo .st)) .st))))),(29, .d (.it .i64)),(30, .d (.it .i64)),(35, .d (.li (.li (.ag (.pr (.ag (.pr .bo .st)) .st))))),(36, .d (.it .i64)),(37, .d (.it .i64))],[(3, .cell (.ag (.li (.ag (.pr (.ag (.pr .bo .st)) .st)))) true),(7, .own (.li (.ag (.pr (.ag (.pr .bo .st)) .st))) true)]⟩
noncomputable def C4x:Sk:=⟨[(3, .f (.a (.ptr 3 0 []))),(7, .f (.a (.ref 7))),(60, .d (.it .i64)),(61, .d (.it .i64))],[(3, .cell (.ag (.li (.ag (.pr (.ag (.pr .bo .st)) .st)))) true),(7, .own (.li (.ag (.pr (.ag (.pr .bo .st)) .st))) true)]⟩
noncomputable def B3G (gl0:(List (List TQ))→(List (List TQ))→Int→Int→(List TQ)→(List (List TQ))→Option T6) (gl1:(List (List TQ))→Int→(List TQ)→(List (List TQ))→Int→Int→(List (List TQ))→Int→Int→(List TQ)→(List (List TQ))→Option T6) (gl2:Int→Int→(List TQ)→(List (List TQ))→Option T6):List (C6 T6):=[⟨5,C2u,fun s=>gl0 s.1.1 s.1.2.1 s.1.2.2.1 s.1.2.2.2.1 s.2.1 s.2.2.1⟩,⟨8,B8T,fun s=>gl1 s.1.1 s.1.2.1 s.1.2.2.1 s.1.2.2.2.1 s.1.2.2.2.2.1 s.1.2.2.2.2.2.1 s.1.2.2.2.2.2.2.1 s.1.2.2.2.2.2.2.2.1 s.1.2.2.2.2.2.2.2.2.1 s.2.1 s.2.2.1⟩,⟨14,C4x,fun s=>gl2 s.1.1 s.1.2.1 s.2.1 s.2.2.1⟩]
noncomputable def B2E (c90:(List TQ)→(List TQ)→Option X1) (c91:(List TQ)→(List TQ)→Option M6) (c122:(List (List TQ))→Option O3) (c165:(List TQ)→(List TQ)→Option A2s):List FE:=[B1I c90,B2b c91,A5Q c122,B8M c165]
section
variable (gl0:(List (List TQ))→(List (List TQ))→Int→Int→(List TQ)→(List (List TQ))→Option T6) (gl1:(List (List TQ))→Int→(List TQ)→(List (List TQ))→Int→Int→(List (List TQ))→Int→Int→(List TQ)→(List (List TQ))→Option T6) (gl2:Int→Int→(List TQ)→(List (List TQ))→Option T6) (c90:(List TQ)→(List TQ)→Option X1) (c91:(List TQ)→(List TQ)→Option M6) (c122:(List (List TQ))→Option O3) (c165:(List TQ)→(List TQ)→Option A2s)
noncomputable def B8z (x2:(List (List TQ))) (x28:(List (List TQ))) (x29:Int) (x30:Int) (x3:(List TQ)) (x7:(List (List TQ))):Option T6:=if x30<x29 then(if 0≤x30 then(if x30<(x28.length:Int)then(gl1 x2 x30 (C2 ([]:List TQ) x28 x30) x28 x29 x30 x2 (x2.length:Int) 0 x3 x7)else(none))else(none))else(gl2 (x7.length:Int) 0 x3 x7)
theorem F2Q (s0:C3 A2y.ask.bl) (s:C2u.T):A2y.po E0 (B2E c90 c91 c122 c165) (B3G gl0 gl1 gl2) s0 0 (C2u.mk' s)=B8z gl1 gl2 s.1.1 s.1.2.1 s.1.2.2.1 s.1.2.2.2.1 s.2.1 s.2.2.1:=by kernel_rfl
noncomputable def C2z (x2:(List (List TQ))) (x8:Int) (x9:(List TQ)) (x28:(List (List TQ))) (x29:Int) (x30:Int) (x35:(List (List TQ))) (x36:Int) (x37:Int) (x3:(List TQ)) (x7:(List (List TQ))):Option T6:=if x37<x36 then(if 0≤x37 then(if x37<(x35.length:Int)then(if 0≤wrap64 (x8+x37)then(if wrap64 (x8+x37)<(x7.length:Int)then((c91 x9 (C2 ([]:List TQ) x35 x37)).bind fun r1=>((c90 (C2 ([]:List TQ) x7 (wrap64 (x8+x37))) r1).bind fun r2=>(if 0≤wrap64 (x8+x37)then(if wrap64 (x8+x37)<(x7.length:Int)then(gl1 x2 x8 x9 x28 x29 x30 x35 x36 (wrap64 (x37+1)) x3 (x7.set (wrap64 (x8+x37):Int).toNat r2))else(none))else(none))))else(none))else(none))else(none))else(none))else(gl0 x2 x28 x29 (wrap64 (x30+1)) x3 x7)
theorem E9l (s0:C3 A2y.ask.bl) (s:B8T.T):A2y.po E0 (B2E c90 c91 c122 c165) (B3G gl0 gl1 gl2) s0 1 (B8T.mk' s)=C2z gl0 gl1 c90 c91 s.1.1 s.1.2.1 s.1.2.2.1 s.1.2.2.2.1 s.1.2.2.2.2.1 s.1.2.2.2.2.2.1 s.1.2.2.2.2.2.2.1 s.1.2.2.2.2.2.2.2.1 s.1.2.2.2.2.2.2.2.2.1 s.2.1 s.2.2.1:=by kernel_rfl
noncomputable def C6R (x60:Int) (x61:Int) (x3:(List TQ)) (x7:(List (List TQ))):Option T6:=if x61<x60 then(if 0≤x61 then(if x61<(x7.length:Int)then((c165 x3 (C2 ([]:List TQ) x7 x61)).bind fun r1=>(if 0≤x61 then(if x61<(x7.length:Int)then(gl2 x60 (wrap64 (x61+1)) x3 (x7.set (x61:Int).toNat r1))else(none))else(none)))else(none))else(none))else((c122 x7).bind fun r2=>(some r2))
theorem D7M (s0:C3 A2y.ask.bl) (s:C4x.T):A2y.po E0 (B2E c90 c91 c122 c165) (B3G gl0 gl1 gl2) s0 2 (C4x.mk' s)=C6R gl2 c122 c165 s.1.1 s.1.2.1 s.2.1 s.2.2.1:=by kernel_rfl
noncomputable def C0P (x0:(List TQ)) (x1:(List (List TQ))) (x2:(List (List TQ))):Option T6:=if(x1.length:Int)=0 then(some ([]:List (List TQ)))else(if(x2.length:Int)=0 then(some ([]:List (List TQ)))else(if 0≤wrap64 ((wrap64 ((x1.length:Int)+(x2.length:Int)))-1)then(if wrap64 ((wrap64 ((x1.length:Int)+(x2.length:Int)))-1)≤wrap64 ((wrap64 ((x1.length:Int)+(x2.length:Int)))-1)then(if(wrap64 ((wrap64 ((x1.length:Int)+(x2.length:Int)))-1):Int).toNat≤11728124029610 then(gl0 x2 x1 (x1.length:Int) 0 x0 (List.replicate (wrap64 ((wrap64 ((x1.length:Int)+(x2.length:Int)))-1):Int).toNat ([]:List TQ)))else(none))else(none))else(none)))
theorem D8d (s:A2y.ask.T):A2y.ev E0 (B2E c90 c91 c122 c165) (B3G gl0 gl1 gl2) s=C0P gl0 s.1.1 s.1.2.1 s.1.2.2.1:=by kernel_rfl
end
noncomputable def C4v:Sk:=⟨[(1, .pv (.li (.li (.ag (.pr (.ag (.pr .bo .st)) .st))))),(2, .pv (.ag (.li (.ag (.pr (.ag (.pr .bo .st)) .st))))),(4, .d (.li (.li (.ag (.pr (.ag (.pr .bo .st)) .st))))),(5, .d (.li (.li (.ag (.pr (.ag (.pr .bo .st)) .st))))),(6, .d (.it .i64))],[]⟩
noncomputable def C7P (gl0:(List (List TQ))→(List TQ)→(List (List TQ))→(List (List TQ))→Int→Option A0w):List (C6 A0w):=[⟨4,C4v,fun s=>gl0 s.1.1 s.1.2.1 s.1.2.2.1 s.1.2.2.2.1 s.1.2.2.2.2.1⟩]
noncomputable def C7I (c86:(List Int)→Option X6) (c122:(List (List TQ))→Option O3) (c126:(List (List TQ))→(List (List TQ))→Option A2M) (c127:(List TQ)→(List (List TQ))→(List (List TQ))→Option T6):List FE:=[B2C c86,A5Q c122,D5T c126,C8q c127]
section
variable (gl0:(List (List TQ))→(List TQ)→(List (List TQ))→(List (List TQ))→Int→Option A0w) (c86:(List Int)→Option X6) (c122:(List (List TQ))→Option O3) (c126:(List (List TQ))→(List (List TQ))→Option A2M) (c127:(List TQ)→(List (List TQ))→(List (List TQ))→Option T6)
noncomputable def B8W (x1:(List (List TQ))) (x2:(List TQ)) (x4:(List (List TQ))) (x5:(List (List TQ))) (x6:Int):Option A0w:=if x6≥0 then((c127 x2 x4 x5).bind fun r1=>(if 0≤x6 then(if x6<(x1.length:Int)then((c122 ([C2 ([]:List TQ) x1 x6]:List (List TQ))).bind fun r2=>((c126 r1 r2).bind fun r3=>(gl0 x1 x2 r3 x5 (wrap64 (x6-1)))))else(none))else(none)))else(some x4)
theorem F2U (s0:C3 A9Y.ask.bl) (s:C4v.T):A9Y.po E0 (C7I c86 c122 c126 c127) (C7P gl0) s0 0 (C4v.mk' s)=B8W gl0 c122 c126 c127 s.1.1 s.1.2.1 s.1.2.2.1 s.1.2.2.2.1 s.1.2.2.2.2.1:=by kernel_rfl
noncomputable def C7D (x0:(List TQ)) (x1:(List (List TQ))) (x2:(List TQ)):Option A0w:=(c86 ([1]:List Int)).bind fun r1=>((c122 ([x0,r1]:List (List TQ))).bind fun r2=>(gl0 x1 x2 ([]:List (List TQ)) r2 (wrap64 ((x1.length:Int)-1))))
theorem E1m (s:A9Y.ask.T):A9Y.ev E0 (C7I c86 c122 c126 c127) (C7P gl0) s=C7D gl0 c86 c122 s.1.1 s.1.2.1 s.1.2.2.1:=by kernel_rfl
end
noncomputable def D0I (c108:(List (List TQ))→Option i5) (c125:(List TQ)→(List (List TQ))→(List TQ)→Option A0w):List FE:=[A9p c108,D4q c125]
section
variable (c108:(List (List TQ))→Option i5) (c125:(List TQ)→(List (List TQ))→(List TQ)→Option A0w)
noncomputable def C6V (x0:((List TQ)×(List (List TQ))×(List TQ)×Unit)):Option A8L:=(c125 x0.1 x0.2.1 x0.2.2.1).bind fun r1=>((c108 r1).bind fun r2=>(B2 (r2) (some (([]:List (List TQ)),4)) (some (r1,0))))
theorem F3e (s:B6j.ask.T):B6j.ev E0 (D0I c108 c125) [] s=C6V c108 c125 s.1.1:=by kernel_rfl
end
noncomputable def D5p (c83:(List TQ)→(List (List (List TQ)))→Option T9) (c111Shift:((List TQ)×(List (List TQ))×(List TQ)×Unit)→Option A8L) (c124:(List TQ)→(List TQ)→Option A4P):List FE:=[A9R c83,D0t c111Shift,C2b c124]
section
variable (c83:(List TQ)→(List (List (List TQ)))→Option T9) (c111Shift:((List TQ)×(List (List TQ))×(List TQ)×Unit)→Option A8L) (c124:(List TQ)→(List TQ)→Option A4P)
noncomputable def B50 (x0:(List TQ)) (x1:(List (List TQ))) (x2:(List TQ)):Option R50:=(c83 x0 ([x1]:List (List (List TQ)))).bind fun r1=>(if r1≠0 then(some (([]:List (List TQ)),r1))else((c124 x0 x2).bind fun r2=>(if r2≠0 then(some (([]:List (List TQ)),r2))else((c111Shift (x2,x1,x0,())).bind fun r3=>(some (r3.1,r3.2))))))
theorem e50 (s:D50.ask.T):D50.ev E0 (D5p c83 c111Shift c124) [] s=B50 c83 c111Shift c124 s.1.1 s.1.2.1 s.1.2.2.1:=by kernel_rfl
end
noncomputable def D1S (c17:(List TQ)→(List (List TQ))→Option O5) (c18:(List TQ)→(List TQ)→Option R18) (c22:(List Int)→Option R22) (c28:(List TQ)→(List (List TQ))→(List (List TQ))→Option R28) (c29:(List (List TQ))→(List (List TQ))→Option c9) (c31:(List TQ)→(List (List TQ))→(List (List TQ))→Option R31) (c50:(List TQ)→(List (List TQ))→(List TQ)→Option R50):List FE:=[C9R c17,B8n c18,D2c c22,D2w c28,B5e c29,D3r c31,D1k c50]
section
variable (c17:(List TQ)→(List (List TQ))→Option O5) (c18:(List TQ)→(List TQ)→Option R18) (c22:(List Int)→Option R22) (c28:(List TQ)→(List (List TQ))→(List (List TQ))→Option R28) (c29:(List (List TQ))→(List (List TQ))→Option c9) (c31:(List TQ)→(List (List TQ))→(List (List TQ))→Option R31) (c50:(List TQ)→(List (List TQ))→(List TQ)→Option R50)
noncomputable def B16:Option R16:=(c22 ([(-2),0,1]:List Int)).bind fun r1=>((c22 ([0,1]:List Int)).bind fun r2=>((c22 ([1]:List Int)).bind fun r3=>((c22 ([(-2)]:List Int)).bind fun r4=>((c22 ([0,(-1)]:List Int)).bind fun r5=>((c28 r1 ([r4,([]:List TQ),r3]:List (List TQ)) ([r5,r3]:List (List TQ))).bind fun r6=>((c22 ([(-2)]:List Int)).bind fun r7=>((c22 ([2]:List Int)).bind fun r8=>((c22 ([0,(-2)]:List Int)).bind fun r9=>((c31 r1 ([r7,([]:List TQ),r3]:List (List TQ)) ([r8,r9,r3]:List (List TQ))).bind fun r10=>((c22 ([0,(-1)]:List Int)).bind fun r11=>((c17 r1 ([r11,r3]:List (List TQ))).bind fun r12=>((c17 r1 ([r2,([]:List TQ),r3]:List (List TQ))).bind fun r13=>((c17 r1 ([r3,r2]:List (List TQ))).bind fun r14=>((c50 r1 ([([]:List TQ),([]:List TQ),r3]:List (List TQ)) r2).bind fun r15=>(if wrap64 ((wrap64 ((wrap64 ((wrap64 ((wrap64 (r6.2.2+r10.2))+r12.2))+r13.2))+r14.2))+r15.2)≠0 then(some false)else(if(r6.2.1.length:Int)>0 then(some false)else((c29 r6.1 ([r2,r3]:List (List TQ))).bind fun r16=>(B2 ((!r16)) (some false) ((c22 ([0,(-1)]:List Int)).bind fun r17=>((c29 r10.1 ([r17,r3]:List (List TQ))).bind fun r18=>(B2 ((!r18)) (some false) ((c22 ([(-2),0,1]:List Int)).bind fun r19=>((c18 r12.1 r19).bind fun r20=>(B2 (r20) ((c22 ([(-2),0,0,0,1]:List Int)).bind fun r21=>((c18 r13.1 r21).bind fun r22=>(B2 (r22) ((c22 ([1,0,(-2)]:List Int)).bind fun r23=>((c18 r14.1 r23).bind fun r24=>(B2 (r24) ((c22 ([2]:List Int)).bind fun r25=>((c22 ([0,2]:List Int)).bind fun r26=>((c29 r15.1 ([r25,r26,r3]:List (List TQ))).bind fun r27=>(some r27)))) (some false)))) (some false)))) (some false)))))))))))))))))))))))))
theorem e16 (s:D16.ask.T):D16.ev E0 (D1S c17 c18 c22 c28 c29 c31 c50) [] s=B16 c17 c18 c22 c28 c29 c31 c50:=by kernel_rfl
end
noncomputable def C3Z:Sk:=⟨[(5, .d (.li (.it .i64))),(6, .d (.it .i64)),(7, .d (.it .i64))],[]⟩
noncomputable def C0m (gl0:(List Int)→Int→Int→Option R34):List (C6 R34):=[⟨2,C3Z,fun s=>gl0 s.1.1 s.1.2.1 s.1.2.2.1⟩]
section
variable (gl0:(List Int)→Int→Int→Option R34)
noncomputable def A6c (x5:(List Int)) (x6:Int) (x7:Int):Option R34:=if x7<x6 then(if 0≤x7 then(if x7<(x5.length:Int)then(if rd x5 x7≠0 then(some (rd x5 x7))else(gl0 x5 x6 (wrap64 (x7+1))))else(none))else(none))else(some 0)
theorem D6T (s0:C3 D34.ask.bl) (s:C3Z.T):D34.po E0 [] (C0m gl0) s0 0 (C3Z.mk' s)=A6c gl0 s.1.1 s.1.2.1 s.1.2.2.1:=by kernel_rfl
noncomputable def B34 (x0:(List Int)):Option R34:=gl0 x0 (x0.length:Int) 0
theorem e34 (s:D34.ask.T):D34.ev E0 [] (C0m gl0) s=B34 gl0 s.1.1:=by kernel_rfl
end
noncomputable def C3n:Sk:=⟨[(6, .d (.li (.ag (.pr (.ag (.pr .bo .st)) .st)))),(7, .d (.it .i64)),(8, .d (.it .i64))],[]⟩
noncomputable def C4V (gl0:(List TQ)→Int→Int→Option A1H):List (C6 A1H):=[⟨2,C3n,fun s=>gl0 s.1.1 s.1.2.1 s.1.2.2.1⟩]
noncomputable def C6p (c135:TQ→Option A5F):List FE:=[C6c c135]
section
variable (gl0:(List TQ)→Int→Int→Option A1H) (c135:TQ→Option A5F)
noncomputable def A5p (x6:(List TQ)) (x7:Int) (x8:Int):Option A1H:=if x8<x7 then(if 0≤x8 then(if x8<(x6.length:Int)then((c135 (C2 ((false,(⟨#[]⟩:ByteArray)),(⟨#[]⟩:ByteArray)) x6 x8)).bind fun r1=>(if r1≠0 then(some r1)else(gl0 x6 x7 (wrap64 (x8+1)))))else(none))else(none))else(some 0)
theorem E3f (s0:C3 B0a.ask.bl) (s:C3n.T):B0a.po E0 (C6p c135) (C4V gl0) s0 0 (C3n.mk' s)=A5p gl0 c135 s.1.1 s.1.2.1 s.1.2.2.1:=by kernel_rfl
noncomputable def B3K (x0:(List TQ)):Option A1H:=gl0 x0 (x0.length:Int) 0
theorem F2O (s:B0a.ask.T):B0a.ev E0 (C6p c135) (C4V gl0) s=B3K gl0 s.1.1:=by kernel_rfl
end
noncomputable def C1l:Sk:=⟨[(9, .d (.li (.li (.ag (.pr (.ag (.pr .bo .st)) .st))))),(10, .d (.it .i64)),(11, .d (.it .i64))],[]⟩
noncomputable def C2J (gl0:(List (List TQ))→Int→Int→Option v9):List (C6 v9):=[⟨4,C1l,fun s=>gl0 s.1.1 s.1.2.1 s.1.2.2.1⟩]
noncomputable def C5Q (c117:(List TQ)→Option A1H):List FE:=[D1M c117]
section
variable (gl0:(List (List TQ))→Int→Int→Option v9) (c117:(List TQ)→Option A1H)
noncomputable def A7X (x9:(List (List TQ))) (x10:Int) (x11:Int):Option v9:=if x11<x10 then(if 0≤x11 then(if x11<(x9.length:Int)then((c117 (C2 ([]:List TQ) x9 x11)).bind fun r1=>(if r1≠0 then(some r1)else(gl0 x9 x10 (wrap64 (x11+1)))))else(none))else(none))else(some 0)
theorem D7D (s0:C3 D44.ask.bl) (s:C1l.T):D44.po E0 (C5Q c117) (C2J gl0) s0 0 (C1l.mk' s)=A7X gl0 c117 s.1.1 s.1.2.1 s.1.2.2.1:=by kernel_rfl
noncomputable def B44 (x0:(List (List TQ))):Option v9:=if(x0.length:Int)>65 then(some 4)else(gl0 x0 (x0.length:Int) 0)
theorem e44 (s:D44.ask.T):D44.ev E0 (C5Q c117) (C2J gl0) s=B44 gl0 s.1.1:=by kernel_rfl
end
noncomputable def A9I (x0:TI):Option A7u:=some (x0,(⟨#[1]⟩:ByteArray))
theorem E9X (s:B6M.ask.T):B6M.ev E0 [] [] s=A9I s.1.1:=by kernel_rfl
noncomputable def C2K (x0:Bool) (x1:ByteArray):Option A5J:=B2 (x0) (some ((!(E6 x1 (⟨#[]⟩:ByteArray))),x1)) (some (false,x1))
theorem D7u (s:B6h.ask.T):B6h.ev E0 [] [] s=C2K s.1.1 s.1.2.1:=by kernel_rfl
noncomputable def C5U:Sk:=⟨[(5, .f (.a (.ref 5))),(6, .f (.a (.ref 6))),(7, .f (.a (.ref 7))),(8, .d (.it .i64))],[(5, .own (.it .u64) true),(6, .own (.it .u64) true),(7, .own (.it .u64) true)]⟩
noncomputable def C3L:Sk:=⟨[(5, .f (.a (.ref 5))),(6, .f (.a (.ref 6))),(7, .f (.a (.ref 7))),(8, .d (.it .i64)),(9, .d (.it .u64)),(10, .d (.it .i64))],[(5, .own (.it .u64) true),(6, .own (.it .u64) true),(7, .own (.it .u64) true)]⟩
noncomputable def B5J (gl0:Int→(List Int)→(List Int)→(List Int)→Option f8) (gl1:Int→Int→Int→(List Int)→(List Int)→(List Int)→Option f8):List (C6 f8):=[⟨4,C5U,fun s=>gl0 s.1.1 s.2.1 s.2.2.1 s.2.2.2.1⟩,⟨8,C3L,fun s=>gl1 s.1.1 s.1.2.1 s.1.2.2.1 s.2.1 s.2.2.1 s.2.2.2.1⟩]
noncomputable def B5Q (c221:(List Int)→Option T5) (c229:ByteArray→Option W9):List FE:=[B4p c221,C0k c229]
section
variable (gl0:Int→(List Int)→(List Int)→(List Int)→Option f8) (gl1:Int→Int→Int→(List Int)→(List Int)→(List Int)→Option f8) (c221:(List Int)→Option T5) (c229:ByteArray→Option W9)
noncomputable def C2Y (x8:Int) (x5:(List Int)) (x6:(List Int)) (x7:(List Int)):Option f8:=if x8<(x5.length:Int)then(gl1 x8 0 0 x5 x6 x7)else((c221 x7).bind fun r1=>(some r1))
theorem D8g (s0:C3 A4d.ask.bl) (s:C5U.T):A4d.po E0 (B5Q c221 c229) (B5J gl0 gl1) s0 0 (C5U.mk' s)=C2Y gl1 c221 s.1.1 s.2.1 s.2.2.1 s.2.2.2.1:=by kernel_rfl
noncomputable def C2q (x8:Int) (x9:Int) (x10:Int) (x5:(List Int)) (x6:(List Int)) (x7:(List Int)):Option f8:=if x10<(x6.length:Int)then(if 0≤wrap64 (x8+x10)then(if wrap64 (x8+x10)<(x7.length:Int)then(if 0≤x8 then(if x8<(x5.length:Int)then(if 0≤x10 then(if x10<(x6.length:Int)then(if 0≤wrap64 (x8+x10)then(if wrap64 (x8+x10)<(x7.length:Int)then(if(0:Int)≤32 then(gl1 x8 ((IntKind.u64.wrap ((IntKind.u64.wrap ((rd x7 (wrap64 (x8+x10)))+(IntKind.u64.wrap ((rd x5 x8)*(rd x6 x10)))))+x9))/4294967296) (wrap64 (x10+1)) x5 x6 (x7.set (wrap64 (x8+x10):Int).toNat (Go.bits .and .u64 (IntKind.u64.wrap ((IntKind.u64.wrap ((rd x7 (wrap64 (x8+x10)))+(IntKind.u64.wrap ((rd x5 x8)*(rd x6 x10)))))+x9)) 4294967295)))else(none))else(none))else(none))else(none))else(none))else(none))else(none))else(none))else(none))else(if 0≤wrap64 (x8+(x6.length:Int))then(if wrap64 (x8+(x6.length:Int))<(x7.length:Int)then(gl0 (wrap64 (x8+1)) x5 x6 (x7.set (wrap64 (x8+(x6.length:Int)):Int).toNat x9))else(none))else(none))
theorem D8V (s0:C3 A4d.ask.bl) (s:C3L.T):A4d.po E0 (B5Q c221 c229) (B5J gl0 gl1) s0 1 (C3L.mk' s)=C2q gl0 gl1 s.1.1 s.1.2.1 s.1.2.2.1 s.2.1 s.2.2.1 s.2.2.2.1:=by kernel_rfl
noncomputable def C6I (x0:ByteArray) (x1:ByteArray):Option f8:=(c229 x0).bind fun r1=>((c229 x1).bind fun r2=>(if 0≤wrap64 ((r1.length:Int)+(r2.length:Int))then(if wrap64 ((r1.length:Int)+(r2.length:Int))≤wrap64 ((r1.length:Int)+(r2.length:Int))then(if(wrap64 ((r1.length:Int)+(r2.length:Int)):Int).toNat≤35184372088832 then(gl0 0 r1 r2 (List.replicate (wrap64 ((r1.length:Int)+(r2.length:Int)):Int).toNat (0:Int)))else(none))else(none))else(none)))
theorem E8n (s:A4d.ask.T):A4d.ev E0 (B5Q c221 c229) (B5J gl0 gl1) s=C6I gl0 c229 s.1.1 s.1.2.1:=by kernel_rfl
end
noncomputable def D5f (c198:Bool→ByteArray→Option A5J) (c202:ByteArray→ByteArray→Option f8):List FE:=[C7L c198,D0B c202]
section
variable (c198:Bool→ByteArray→Option A5J) (c202:ByteArray→ByteArray→Option f8)
noncomputable def B9w (x0:TI) (x1:TI):Option A5H:=(c202 x0.2 x1.2).bind fun r1=>((c198 (!(x0.1==x1.1)) r1).bind fun r2=>(some (r2.1,r2.2)))
theorem E1B (s:B3b.ask.T):B3b.ev E0 (D5f c198 c202) [] s=B9w c198 c202 s.1.1 s.1.2.1:=by kernel_rfl
end
noncomputable def A7D (x0:TQ):Option A5M:=some (false,x0.2)
theorem E7G (s:B4E.ask.T):B4E.ev E0 [] [] s=A7D s.1.1:=by kernel_rfl
noncomputable def D0x (c180:ByteArray→ByteArray→Option m6) (c198:Bool→ByteArray→Option A5J) (c203:ByteArray→ByteArray→Option Q5):List FE:=[C0D c180,C7L c198,C1p c203]
section
variable (c180:ByteArray→ByteArray→Option m6) (c198:Bool→ByteArray→Option A5J) (c203:ByteArray→ByteArray→Option Q5)
noncomputable def B6E (x0:TI) (x1:TI):Option A7o:=B2 ((E6 x1.2 (⟨#[]⟩:ByteArray))) (some ((false,(⟨#[]⟩:ByteArray)),(⟨#[1]⟩:ByteArray))) ((c180 x0.2 x1.2).bind fun r1=>((c203 x0.2 r1).bind fun r2=>((c203 x1.2 r1).bind fun r3=>((c198 (!(x0.1==x1.1)) r2.1).bind fun r4=>(some ((r4.1,r4.2),r3.1))))))
theorem F2n (s:B6W.ask.T):B6W.ev E0 (D0x c180 c198 c203) [] s=B6E c180 c198 c203 s.1.1 s.1.2.1:=by kernel_rfl
end
noncomputable def D1V (c159:TI→Option A7u) (c161:TI→TI→Option A5H) (c162:TQ→Option A5M) (c163:TI→TI→Option A7o):List FE:=[D1p c159,C3H c161,C5R c162,D0i c163]
section
variable (c159:TI→Option A7u) (c161:TI→TI→Option A5H) (c162:TQ→Option A5M) (c163:TI→TI→Option A7o)
noncomputable def A9z (x0:TQ) (x1:TQ):Option A7q:=B2 ((E6 x0.2 (⟨#[1]⟩:ByteArray))) (B2 ((E6 x1.2 (⟨#[1]⟩:ByteArray))) ((c161 x0.1 x1.1).bind fun r1=>((c159 (r1.1,r1.2)).bind fun r2=>(some (r2.1,r2.2)))) ((c161 x0.1 x1.1).bind fun r3=>((c162 x0).bind fun r4=>((c162 x1).bind fun r5=>((c161 (r4.1,r4.2) (r5.1,r5.2)).bind fun r6=>((c163 (r3.1,r3.2) (r6.1,r6.2)).bind fun r7=>(some (r7.1,r7.2)))))))) ((c161 x0.1 x1.1).bind fun r8=>((c162 x0).bind fun r9=>((c162 x1).bind fun r10=>((c161 (r9.1,r9.2) (r10.1,r10.2)).bind fun r11=>((c163 (r8.1,r8.2) (r11.1,r11.2)).bind fun r12=>(some (r12.1,r12.2)))))))
theorem F1e (s:B5M.ask.T):B5M.ev E0 (D1V c159 c161 c162 c163) [] s=A9z c159 c161 c162 c163 s.1.1 s.1.2.1:=by kernel_rfl
end
noncomputable def C4C:Sk:=⟨[(3, .f (.a (.ptr 3 0 []))),(5, .f (.a (.ref 5))),(8, .d (.li (.ag (.pr (.ag (.pr .bo .st)) .st)))),(9, .d (.it .i64)),(10, .d (.it .i64))],[(3, .cell (.ag (.pr (.ag (.pr .bo .st)) .st)) true),(5, .own (.ag (.pr (.ag (.pr .bo .st)) .st)) true)]⟩
noncomputable def C1P (gl0:(List TQ)→Int→Int→TQ→(List TQ)→Option R98):List (C6 R98):=[⟨3,C4C,fun s=>gl0 s.1.1 s.1.2.1 s.1.2.2.1 s.2.1 s.2.2.1⟩]
noncomputable def B8h (c48:(List TQ)→Option b8) (c118:TQ→TQ→Option A7q):List FE:=[B4R c48,D4Z c118]
section
variable (gl0:(List TQ)→Int→Int→TQ→(List TQ)→Option R98) (c48:(List TQ)→Option b8) (c118:TQ→TQ→Option A7q)
noncomputable def A6Y (x8:(List TQ)) (x9:Int) (x10:Int) (x3:TQ) (x5:(List TQ)):Option R98:=if x10<x9 then(if 0≤x10 then(if x10<(x8.length:Int)then((c118 (C2 ((false,(⟨#[]⟩:ByteArray)),(⟨#[]⟩:ByteArray)) x8 x10) x3).bind fun r1=>(if(x5.length+1)*40≤140737488355328 then(gl0 x8 x9 (wrap64 (x10+1)) x3 (x5++([(r1.1,r1.2)]:List TQ)))else(none)))else(none))else(none))else((c48 x5).bind fun r2=>(some r2))
theorem F0y (s0:C3 D98.ask.bl) (s:C4C.T):D98.po E0 (B8h c48 c118) (C1P gl0) s0 0 (C4C.mk' s)=A6Y gl0 c48 c118 s.1.1 s.1.2.1 s.1.2.2.1 s.2.1 s.2.2.1:=by kernel_rfl
noncomputable def B98 (x0:(List TQ)) (x1:TQ):Option R98:=gl0 x0 (x0.length:Int) 0 x1 ([]:List TQ)
theorem e98 (s:D98.ask.T):D98.ev E0 (B8h c48 c118) (C1P gl0) s=B98 gl0 s.1.1 s.1.2.1:=by kernel_rfl
end
noncomputable def C2V:Sk:=⟨[(0, .d (.li (.li (.ag (.pr (.ag (.pr .bo .st)) .st))))),(3, .d (.it .i64))],[]⟩
noncomputable def B9h (gl0:(List (List TQ))→Int→Option A2J):List (C6 A2J):=[⟨2,C2V,fun s=>gl0 s.1.1 s.1.2.1⟩]
section
variable (gl0:(List (List TQ))→Int→Option A2J)
noncomputable def A6t (x0:(List (List TQ))) (x3:Int):Option A2J:=if x3>0 then(if 0≤wrap64 (x3-1)then(if wrap64 (x3-1)<(x0.length:Int)then(if((C2 ([]:List TQ) x0 (wrap64 (x3-1))).length:Int)=0 then(gl0 x0 (wrap64 (x3-1)))else(if(0:Int)≤0 then(if 0≤x3 then(if x3≤(x0.length:Int)then(if(x0.length:Int)≤(x0.length:Int)then(if(([]:List (List TQ)).length+(slice_ x0 0 x3).length)*24≤140737488355328 then(some (([]:List (List TQ))++(slice_ x0 0 x3)))else(none))else(none))else(none))else(none))else(none)))else(none))else(none))else(if(0:Int)≤0 then(if 0≤x3 then(if x3≤(x0.length:Int)then(if(x0.length:Int)≤(x0.length:Int)then(if(([]:List (List TQ)).length+(slice_ x0 0 x3).length)*24≤140737488355328 then(some (([]:List (List TQ))++(slice_ x0 0 x3)))else(none))else(none))else(none))else(none))else(none))
theorem E4V (s0:C3 B0u.ask.bl) (s:C2V.T):B0u.po E0 [] (B9h gl0) s0 0 (C2V.mk' s)=A6t gl0 s.1.1 s.1.2.1:=by kernel_rfl
noncomputable def B2l (x0:(List (List TQ))):Option A2J:=gl0 x0 (x0.length:Int)
theorem D7I (s:B0u.ask.T):B0u.ev E0 [] (B9h gl0) s=B2l gl0 s.1.1:=by kernel_rfl
end
noncomputable def C2I:Sk:=⟨[(0, .d (.li (.li (.ag (.pr (.ag (.pr .bo .st)) .st))))),(3, .f (.a (.ref 3))),(4, .d (.it .i64))],[(3, .own (.li (.ag (.pr (.ag (.pr .bo .st)) .st))) true)]⟩
noncomputable def C2f (gl0:(List (List TQ))→Int→(List (List TQ))→Option R74):List (C6 R74):=[⟨3,C2I,fun s=>gl0 s.1.1 s.1.2.1 s.2.1⟩]
noncomputable def C2r (c81:Int→Option R81) (c98:(List TQ)→TQ→Option R98) (c104:(List (List TQ))→Option A2J):List FE:=[B2K c81,D0D c98,D2I c104]
section
variable (gl0:(List (List TQ))→Int→(List (List TQ))→Option R74) (c81:Int→Option R81) (c98:(List TQ)→TQ→Option R98) (c104:(List (List TQ))→Option A2J)
noncomputable def A3u (x0:(List (List TQ))) (x4:Int) (x3:(List (List TQ))):Option R74:=if x4<(x0.length:Int)then(if 0≤x4 then(if x4<(x0.length:Int)then((c81 x4).bind fun r1=>((c98 (C2 ([]:List TQ) x0 x4) (r1.1,r1.2)).bind fun r2=>(if(x3.length+1)*24≤140737488355328 then(gl0 x0 (wrap64 (x4+1)) (x3++([r2]:List (List TQ))))else(none))))else(none))else(none))else((c104 x3).bind fun r3=>(some r3))
theorem E8s (s0:C3 D74.ask.bl) (s:C2I.T):D74.po E0 (C2r c81 c98 c104) (C2f gl0) s0 0 (C2I.mk' s)=A3u gl0 c81 c98 c104 s.1.1 s.1.2.1 s.2.1:=by kernel_rfl
noncomputable def B74 (x0:(List (List TQ))):Option R74:=gl0 x0 1 ([]:List (List TQ))
theorem e74 (s:D74.ask.T):D74.ev E0 (C2r c81 c98 c104) (C2f gl0) s=B74 gl0 s.1.1:=by kernel_rfl
end
noncomputable def D2A (c74:(List (List TQ))→Option R74):List FE:=[D0F c74]
section
variable (c74:(List (List TQ))→Option R74)
noncomputable def B73 (x0:(List (List TQ))):Option R73:=(c74 x0).bind fun r1=>(some r1)
theorem e73 (s:D73.ask.T):D73.ev E0 (D2A c74) [] s=B73 c74 s.1.1:=by kernel_rfl
end
noncomputable def D4f (c29:(List (List TQ))→(List (List TQ))→Option c9) (c44:(List (List TQ))→Option v9) (c73:(List (List TQ))→Option R73):List FE:=[B5e c29,C7X c44,D1e c73]
section
variable (c29:(List (List TQ))→(List (List TQ))→Option c9) (c44:(List (List TQ))→Option v9) (c73:(List (List TQ))→Option R73)
noncomputable def A6E (x0:(List (List TQ))) (x1:Int) (x2:Int) (x3:((List (List TQ))×Unit)):Option A9t:=if x2≠0 then(if x1=x2 then(some (decide ((x0.length:Int)=0)))else(some false))else((c73 x3.1).bind fun r1=>((c44 r1).bind fun r2=>(if r2≠0 then(if x1=r2 then(some (decide ((x0.length:Int)=0)))else(some false))else(if x1=0 then((c29 x0 r1).bind fun r3=>(some r3))else(some false)))))
theorem E5v (s:B4g.ask.T):B4g.ev E0 (D4f c29 c44 c73) [] s=A6E c29 c44 c73 s.1.1 s.1.2.1 s.1.2.2.1 s.1.2.2.2.1:=by kernel_rfl
end
noncomputable def D4J (c48:(List TQ)→Option b8):List FE:=[B4R c48]
section
variable (c48:(List TQ)→Option b8)
noncomputable def B95 (x0:TQ):Option R95:=(c48 ([x0]:List TQ)).bind fun r1=>(some r1)
theorem e95 (s:D95.ask.T):D95.ev E0 (D4J c48) [] s=B95 c48 s.1.1:=by kernel_rfl
end
noncomputable def C5t:Sk:=⟨[(3, .f (.a (.ref 3))),(6, .d (.li (.ag (.pr (.ag (.pr .bo .st)) .st)))),(7, .d (.it .i64)),(8, .d (.it .i64))],[(3, .own (.li (.ag (.pr (.ag (.pr .bo .st)) .st))) true)]⟩
noncomputable def C5E (gl0:(List TQ)→Int→Int→(List (List TQ))→Option R76):List (C6 R76):=[⟨3,C5t,fun s=>gl0 s.1.1 s.1.2.1 s.1.2.2.1 s.2.1⟩]
noncomputable def C0u (c95:TQ→Option R95):List FE:=[D4u c95]
section
variable (gl0:(List TQ)→Int→Int→(List (List TQ))→Option R76) (c95:TQ→Option R95)
noncomputable def A7K (x6:(List TQ)) (x7:Int) (x8:Int) (x3:(List (List TQ))):Option R76:=if x8<x7 then(if 0≤x8 then(if x8<(x6.length:Int)then((c95 (C2 ((false,(⟨#[]⟩:ByteArray)),(⟨#[]⟩:ByteArray)) x6 x8)).bind fun r1=>(if(x3.length+1)*24≤140737488355328 then(gl0 x6 x7 (wrap64 (x8+1)) (x3++([r1]:List (List TQ))))else(none)))else(none))else(none))else(some x3)
theorem F0v (s0:C3 D76.ask.bl) (s:C5t.T):D76.po E0 (C0u c95) (C5E gl0) s0 0 (C5t.mk' s)=A7K gl0 c95 s.1.1 s.1.2.1 s.1.2.2.1 s.2.1:=by kernel_rfl
noncomputable def B76 (x0:(List TQ)):Option R76:=gl0 x0 (x0.length:Int) 0 ([]:List (List TQ))
theorem e76 (s:D76.ask.T):D76.ev E0 (C0u c95) (C5E gl0) s=B76 gl0 s.1.1:=by kernel_rfl
end
noncomputable def D0S (c76:(List TQ)→Option R76):List FE:=[C4W c76]
section
variable (c76:(List TQ)→Option R76)
noncomputable def B75 (x0:(List TQ)):Option R75:=(c76 x0).bind fun r1=>(some r1)
theorem e75 (s:D75.ask.T):D75.ev E0 (D0S c76) [] s=B75 c76 s.1.1:=by kernel_rfl
end
noncomputable def C9z (c29:(List (List TQ))→(List (List TQ))→Option c9) (c44:(List (List TQ))→Option v9) (c75:(List TQ)→Option R75):List FE:=[B5e c29,C7X c44,D4z c75]
section
variable (c29:(List (List TQ))→(List (List TQ))→Option c9) (c44:(List (List TQ))→Option v9) (c75:(List TQ)→Option R75)
noncomputable def A5i (x0:(List (List TQ))) (x1:Int) (x2:Int) (x3:((List TQ)×Unit)):Option A9X:=if x2≠0 then(if x1=x2 then(some (decide ((x0.length:Int)=0)))else(some false))else((c75 x3.1).bind fun r1=>((c44 r1).bind fun r2=>(if r2≠0 then(if x1=r2 then(some (decide ((x0.length:Int)=0)))else(some false))else(if x1=0 then((c29 x0 r1).bind fun r3=>(some r3))else(some false)))))
theorem F0E (s:B6P.ask.T):B6P.ev E0 (C9z c29 c44 c75) [] s=A5i c29 c44 c75 s.1.1 s.1.2.1 s.1.2.2.1 s.1.2.2.2.1:=by kernel_rfl
end
noncomputable def C5W:Sk:=⟨[(2, .f (.a (.ref 2))),(8, .d (.li (.ag (.pr (.ag (.pr .bo .st)) .st)))),(9, .d (.it .i64)),(10, .d (.it .i64))],[(2, .own (.li (.ag (.pr (.ag (.pr .bo .st)) .st))) true)]⟩
noncomputable def C6Q (gl0:(List TQ)→Int→Int→(List (List TQ))→Option A1w):List (C6 A1w):=[⟨3,C5W,fun s=>gl0 s.1.1 s.1.2.1 s.1.2.2.1 s.2.1⟩]
noncomputable def C7k (c92:(List TQ)→Option M8) (c122:(List (List TQ))→Option O3):List FE:=[A4L c92,A5Q c122]
section
variable (gl0:(List TQ)→Int→Int→(List (List TQ))→Option A1w) (c92:(List TQ)→Option M8) (c122:(List (List TQ))→Option O3)
noncomputable def A6o (x8:(List TQ)) (x9:Int) (x10:Int) (x2:(List (List TQ))):Option A1w:=if x10<x9 then(if 0≤x10 then(if x10<(x8.length:Int)then((c92 ([C2 ((false,(⟨#[]⟩:ByteArray)),(⟨#[]⟩:ByteArray)) x8 x10]:List TQ)).bind fun r1=>(if 0≤x10 then(if x10<(x2.length:Int)then(gl0 x8 x9 (wrap64 (x10+1)) (x2.set (x10:Int).toNat r1))else(none))else(none)))else(none))else(none))else((c122 x2).bind fun r2=>(some r2))
theorem D9T (s0:C3 B0Y.ask.bl) (s:C5W.T):B0Y.po E0 (C7k c92 c122) (C6Q gl0) s0 0 (C5W.mk' s)=A6o gl0 c92 c122 s.1.1 s.1.2.1 s.1.2.2.1 s.2.1:=by kernel_rfl
noncomputable def B3F (x0:(List TQ)):Option A1w:=if 0≤(x0.length:Int)then(if(x0.length:Int)≤(x0.length:Int)then(if((x0.length:Int):Int).toNat≤11728124029610 then(gl0 x0 (x0.length:Int) 0 (List.replicate ((x0.length:Int):Int).toNat ([]:List TQ)))else(none))else(none))else(none)
theorem D6Q (s:B0Y.ask.T):B0Y.ev E0 (C7k c92 c122) (C6Q gl0) s=B3F gl0 s.1.1:=by kernel_rfl
end
noncomputable def D5q (c108:(List (List TQ))→Option i5) (c121:(List TQ)→Option A1w):List FE:=[A9p c108,C8V c121]
section
variable (c108:(List (List TQ))→Option i5) (c121:(List TQ)→Option A1w)
noncomputable def B9N (x0:((List TQ)×Unit)):Option A9i:=(c121 x0.1).bind fun r1=>((c108 r1).bind fun r2=>(B2 (r2) (some (([]:List (List TQ)),4)) (some (r1,0))))
theorem E4Z (s:B5O.ask.T):B5O.ev E0 (D5q c108 c121) [] s=B9N c108 c121 s.1.1:=by kernel_rfl
end
noncomputable def D1g (c111FromRational:((List TQ)×Unit)→Option A9i) (c119:(List TQ)→Option A2w) (c120:(List TQ)→Option f7):List FE:=[D5J c111FromRational,B7j c119,B6t c120]
section
variable (c111FromRational:((List TQ)×Unit)→Option A9i) (c119:(List TQ)→Option A2w) (c120:(List TQ)→Option f7)
noncomputable def B46 (x0:(List TQ)) (x1:(List TQ)):Option R46:=(c119 x0).bind fun r1=>(if r1≠0 then(some (([]:List (List TQ)),r1))else((c120 x1).bind fun r2=>(if r2≠0 then(some (([]:List (List TQ)),r2))else((c111FromRational (x1,())).bind fun r3=>(some (r3.1,r3.2))))))
theorem e46 (s:D46.ask.T):D46.ev E0 (D1g c111FromRational c119 c120) [] s=B46 c111FromRational c119 c120 s.1.1 s.1.2.1:=by kernel_rfl
end
noncomputable def C0S:Sk:=⟨[(0, .pv (.li (.li (.ag (.pr (.ag (.pr .bo .st)) .st))))),(2, .f (.a (.ref 2))),(3, .d (.it .i64))],[(2, .own (.li (.ag (.pr (.ag (.pr .bo .st)) .st))) true)]⟩
noncomputable def C2t (gl0:(List (List TQ))→Int→(List (List TQ))→Option A0v):List (C6 A0v):=[⟨3,C0S,fun s=>gl0 s.1.1 s.1.2.1 s.2.1⟩]
noncomputable def C6K (c89:Int→Option S5) (c122:(List (List TQ))→Option O3) (c137:(List TQ)→TQ→Option o3):List FE:=[A4K c89,A5Q c122,C6G c137]
section
variable (gl0:(List (List TQ))→Int→(List (List TQ))→Option A0v) (c89:Int→Option S5) (c122:(List (List TQ))→Option O3) (c137:(List TQ)→TQ→Option o3)
noncomputable def A4J (x0:(List (List TQ))) (x3:Int) (x2:(List (List TQ))):Option A0v:=if x3<(x0.length:Int)then(if 0≤x3 then(if x3<(x0.length:Int)then((c89 x3).bind fun r1=>((c137 (C2 ([]:List TQ) x0 x3) (r1.1,r1.2)).bind fun r2=>(if(x2.length+1)*24≤140737488355328 then(gl0 x0 (wrap64 (x3+1)) (x2++([r2]:List (List TQ))))else(none))))else(none))else(none))else((c122 x2).bind fun r3=>(some r3))
theorem E6I (s0:C3 B0v.ask.bl) (s:C0S.T):B0v.po E0 (C6K c89 c122 c137) (C2t gl0) s0 0 (C0S.mk' s)=A4J gl0 c89 c122 c137 s.1.1 s.1.2.1 s.2.1:=by kernel_rfl
noncomputable def B2c (x0:(List (List TQ))):Option A0v:=gl0 x0 1 ([]:List (List TQ))
theorem E1T (s:B0v.ask.T):B0v.ev E0 (C6K c89 c122 c137) (C2t gl0) s=B2c gl0 s.1.1:=by kernel_rfl
end
noncomputable def D4a (c108:(List (List TQ))→Option i5) (c136:(List (List TQ))→Option A0v):List FE:=[A9p c108,D5Z c136]
section
variable (c108:(List (List TQ))→Option i5) (c136:(List (List TQ))→Option A0v)
noncomputable def C8Q (x0:((List (List TQ))×Unit)):Option B0j:=(c136 x0.1).bind fun r1=>((c108 r1).bind fun r2=>(B2 (r2) (some (([]:List (List TQ)),4)) (some (r1,0))))
theorem D7S (s:B6U.ask.T):B6U.ev E0 (D4a c108 c136) [] s=C8Q c108 c136 s.1.1:=by kernel_rfl
end
noncomputable def D1o (c83:(List TQ)→(List (List (List TQ)))→Option T9) (c111Derivative:((List (List TQ))×Unit)→Option B0j):List FE:=[A9R c83,D4I c111Derivative]
section
variable (c83:(List TQ)→(List (List (List TQ)))→Option T9) (c111Derivative:((List (List TQ))×Unit)→Option B0j)
noncomputable def B71 (x0:(List TQ)) (x1:(List (List TQ))):Option R71:=(c83 x0 ([x1]:List (List (List TQ)))).bind fun r1=>(if r1≠0 then(some (([]:List (List TQ)),r1))else((c111Derivative (x1,())).bind fun r2=>(some (r2.1,r2.2))))
theorem e71 (s:D71.ask.T):D71.ev E0 (D1o c83 c111Derivative) [] s=B71 c83 c111Derivative s.1.1 s.1.2.1:=by kernel_rfl
end
noncomputable def D4R (c119:(List TQ)→Option A2w) (c138:(List TQ)→(List (List TQ))→Option A0N):List FE:=[B7j c119,C1V c138]
section
variable (c119:(List TQ)→Option A2w) (c138:(List TQ)→(List (List TQ))→Option A0N)
noncomputable def B72 (x0:(List TQ)) (x1:(List (List TQ))):Option R72:=(c119 x0).bind fun r1=>(if r1≠0 then(some r1)else((c138 x0 x1).bind fun r2=>(some r2)))
theorem e72 (s:D72.ask.T):D72.ev E0 (D4R c119 c138) [] s=B72 c119 c138 s.1.1 s.1.2.1:=by kernel_rfl
end
noncomputable def C9P (c227:ByteArray→ByteArray→Option A5U):List FE:=[C7Y c227]
section
variable (c227:ByteArray→ByteArray→Option A5U)
noncomputable def B8S (x0:TI) (x1:TI):Option A7z:=B2 ((!(x0.1==x1.1))) (B2 (x0.1) (some (-1)) (some 1)) (B2 (x0.1) ((c227 x1.2 x0.2).bind fun r1=>(some r1)) ((c227 x0.2 x1.2).bind fun r2=>(some r2)))
theorem D8k (s:B7X.ask.T):B7X.ev E0 (C9P c227) [] s=B8S c227 s.1.1 s.1.2.1:=by kernel_rfl
end
noncomputable def D4o (c186:ByteArray→ByteArray→Option A0g) (c192:Bool→ByteArray→Option V3) (c219:TI→TI→Option A7z):List FE:=[B1c c186,A5N c192,D4T c219]
section
variable (c186:ByteArray→ByteArray→Option A0g) (c192:Bool→ByteArray→Option V3) (c219:TI→TI→Option A7z)
noncomputable def B2j (x0:TQ) (x1:TQ):Option A8m:=B2 ((E6 x0.2 x1.2)) ((c219 x0.1 x1.1).bind fun r1=>(some r1)) ((c186 x0.1.2 x1.2).bind fun r2=>((c192 x0.1.1 r2).bind fun r3=>((c186 x1.1.2 x0.2).bind fun r4=>((c192 x1.1.1 r4).bind fun r5=>((c219 (r3.1,r3.2) (r5.1,r5.2)).bind fun r6=>(some r6))))))
theorem E3t (s:B7k.ask.T):B7k.ev E0 (D4o c186 c192 c219) [] s=B2j c186 c192 c219 s.1.1 s.1.2.1:=by kernel_rfl
end
noncomputable def C1w:Sk:=⟨[(0, .d (.li (.ag (.pr (.ag (.pr .bo .st)) .st)))),(1, .d (.li (.ag (.pr (.ag (.pr .bo .st)) .st)))),(20, .d (.it .i64)),(21, .d (.it .i64))],[]⟩
noncomputable def C1z (gl0:(List TQ)→(List TQ)→Int→Int→Option A1s):List (C6 A1s):=[⟨4,C1w,fun s=>gl0 s.1.1 s.1.2.1 s.1.2.2.1 s.1.2.2.2.1⟩]
noncomputable def C4f (c181:TQ→TQ→Option A8m):List FE:=[D1N c181]
section
variable (gl0:(List TQ)→(List TQ)→Int→Int→Option A1s) (c181:TQ→TQ→Option A8m)
noncomputable def A7j (x0:(List TQ)) (x1:(List TQ)) (x20:Int) (x21:Int):Option A1s:=if x21<x20 then(if 0≤x21 then(if x21<(x0.length:Int)then(if 0≤x21 then(if x21<(x1.length:Int)then((c181 (C2 ((false,(⟨#[]⟩:ByteArray)),(⟨#[]⟩:ByteArray)) x0 x21) (C2 ((false,(⟨#[]⟩:ByteArray)),(⟨#[]⟩:ByteArray)) x1 x21)).bind fun r1=>(if r1≠0 then(some r1)else(gl0 x0 x1 x20 (wrap64 (x21+1)))))else(none))else(none))else(none))else(none))else(some 0)
theorem E0J (s0:C3 B0S.ask.bl) (s:C1w.T):B0S.po E0 (C4f c181) (C1z gl0) s0 0 (C1w.mk' s)=A7j gl0 c181 s.1.1 s.1.2.1 s.1.2.2.1 s.1.2.2.2.1:=by kernel_rfl
noncomputable def B2o (x0:(List TQ)) (x1:(List TQ)):Option A1s:=if(x0.length:Int)≠(x1.length:Int)then(some (mx (-1) (mn 1 (wrap64 ((x0.length:Int)-(x1.length:Int))))))else(gl0 x0 x1 (x0.length:Int) 0)
theorem F2d (s:B0S.ask.T):B0S.ev E0 (C4f c181) (C1z gl0) s=B2o gl0 s.1.1 s.1.2.1:=by kernel_rfl
end
noncomputable def C1T:Sk:=⟨[(0, .d (.li (.li (.ag (.pr (.ag (.pr .bo .st)) .st))))),(1, .d (.li (.li (.ag (.pr (.ag (.pr .bo .st)) .st))))),(20, .d (.it .i64)),(21, .d (.it .i64))],[]⟩
noncomputable def C5s (gl0:(List (List TQ))→(List (List TQ))→Int→Int→Option R77):List (C6 R77):=[⟨4,C1T,fun s=>gl0 s.1.1 s.1.2.1 s.1.2.2.1 s.1.2.2.2.1⟩]
noncomputable def C6h (c139:(List TQ)→(List TQ)→Option A1s):List FE:=[D4n c139]
section
variable (gl0:(List (List TQ))→(List (List TQ))→Int→Int→Option R77) (c139:(List TQ)→(List TQ)→Option A1s)
noncomputable def A6K (x0:(List (List TQ))) (x1:(List (List TQ))) (x20:Int) (x21:Int):Option R77:=if x21<x20 then(if 0≤x21 then(if x21<(x0.length:Int)then(if 0≤x21 then(if x21<(x1.length:Int)then((c139 (C2 ([]:List TQ) x0 x21) (C2 ([]:List TQ) x1 x21)).bind fun r1=>(if r1≠0 then(some r1)else(gl0 x0 x1 x20 (wrap64 (x21+1)))))else(none))else(none))else(none))else(none))else(some 0)
theorem E4y (s0:C3 D77.ask.bl) (s:C1T.T):D77.po E0 (C6h c139) (C5s gl0) s0 0 (C1T.mk' s)=A6K gl0 c139 s.1.1 s.1.2.1 s.1.2.2.1 s.1.2.2.2.1:=by kernel_rfl
noncomputable def B77 (x0:(List (List TQ))) (x1:(List (List TQ))):Option R77:=if(x0.length:Int)≠(x1.length:Int)then(some (mx (-1) (mn 1 (wrap64 ((x0.length:Int)-(x1.length:Int))))))else(gl0 x0 x1 (x0.length:Int) 0)
theorem e77 (s:D77.ask.T):D77.ev E0 (C6h c139) (C5s gl0) s=B77 gl0 s.1.1 s.1.2.1:=by kernel_rfl
end
noncomputable def C5p (x0:ByteArray) (x1:ByteArray):Option A8b:=if(x0.size:Int)<(x1.size:Int)then(some (-1))else(if(x0.size:Int)=(x1.size:Int)then(B2 ((Op.bytesLess x0.toList x1.toList)) (some (-1)) (B2 ((E6 x0 x1)) (some 0) (some 1)))else(B2 ((E6 x0 x1)) (some 0) (some 1)))
theorem E2j (s:B4H.ask.T):B4H.ev E0 [] [] s=C5p s.1.1 s.1.2.1:=by kernel_rfl
noncomputable def D2M (c173:TI→Option A5g) (c200:ByteArray→ByteArray→Option A8b):List FE:=[C7y c173,D2v c200]
section
variable (c173:TI→Option A5g) (c200:ByteArray→ByteArray→Option A8b)
noncomputable def C0G (x0:TI) (x1:TI):Option A9o:=(c173 x0).bind fun r1=>((c173 x1).bind fun r2=>(if r1<r2 then(some (-1))else(if r1>r2 then(some 1)else(if r1<0 then((c200 x1.2 x0.2).bind fun r3=>(some r3))else((c200 x0.2 x1.2).bind fun r4=>(some r4))))))
theorem E0k (s:B8F.ask.T):B8F.ev E0 (D2M c173 c200) [] s=C0G c173 c200 s.1.1 s.1.2.1:=by kernel_rfl
end
noncomputable def D3A (c161:TI→TI→Option A5H) (c162:TQ→Option A5M) (c220:TI→TI→Option A9o):List FE:=[C3H c161,C5R c162,D3Q c220]
section
variable (c161:TI→TI→Option A5H) (c162:TQ→Option A5M) (c220:TI→TI→Option A9o)
noncomputable def B7D (x0:TQ) (x1:TQ):Option A9N:=(c162 x1).bind fun r1=>((c161 x0.1 (r1.1,r1.2)).bind fun r2=>((c162 x0).bind fun r3=>((c161 x1.1 (r3.1,r3.2)).bind fun r4=>((c220 (r2.1,r2.2) (r4.1,r4.2)).bind fun r5=>(some r5)))))
theorem E3W (s:B6f.ask.T):B6f.ev E0 (D3A c161 c162 c220) [] s=B7D c161 c162 c220 s.1.1 s.1.2.1:=by kernel_rfl
end
noncomputable def C4Z:Sk:=⟨[(0, .d (.li (.ag (.pr (.ag (.pr .bo .st)) .st)))),(1, .d (.li (.ag (.pr (.ag (.pr .bo .st)) .st)))),(18, .d (.it .i64)),(19, .d (.it .i64))],[]⟩
noncomputable def B8f (gl0:(List TQ)→(List TQ)→Int→Int→Option A2S):List (C6 A2S):=[⟨6,C4Z,fun s=>gl0 s.1.1 s.1.2.1 s.1.2.2.1 s.1.2.2.2.1⟩]
noncomputable def C1I (c182:TQ→TQ→Option A9N):List FE:=[D5F c182]
section
variable (gl0:(List TQ)→(List TQ)→Int→Int→Option A2S) (c182:TQ→TQ→Option A9N)
noncomputable def A7U (x0:(List TQ)) (x1:(List TQ)) (x18:Int) (x19:Int):Option A2S:=if x19<x18 then(if 0≤x19 then(if x19<(x0.length:Int)then(if 0≤x19 then(if x19<(x1.length:Int)then((c182 (C2 ((false,(⟨#[]⟩:ByteArray)),(⟨#[]⟩:ByteArray)) x0 x19) (C2 ((false,(⟨#[]⟩:ByteArray)),(⟨#[]⟩:ByteArray)) x1 x19)).bind fun r1=>(if r1≠0 then(some r1)else(gl0 x0 x1 x18 (wrap64 (x19+1)))))else(none))else(none))else(none))else(none))else(some 0)
theorem D8e (s0:C3 A8V.ask.bl) (s:C4Z.T):A8V.po E0 (C1I c182) (B8f gl0) s0 0 (C4Z.mk' s)=A7U gl0 c182 s.1.1 s.1.2.1 s.1.2.2.1 s.1.2.2.2.1:=by kernel_rfl
noncomputable def B2Z (x0:(List TQ)) (x1:(List TQ)):Option A2S:=if(x0.length:Int)≠(x1.length:Int)then(if(x0.length:Int)<(x1.length:Int)then(some (-1))else(some 1))else(gl0 x0 x1 (x0.length:Int) 0)
theorem E8g (s:A8V.ask.T):A8V.ev E0 (C1I c182) (B8f gl0) s=B2Z gl0 s.1.1 s.1.2.1:=by kernel_rfl
end
noncomputable def C3K:Sk:=⟨[(0, .d (.li (.li (.ag (.pr (.ag (.pr .bo .st)) .st))))),(1, .d (.li (.li (.ag (.pr (.ag (.pr .bo .st)) .st))))),(18, .d (.it .i64)),(19, .d (.it .i64))],[]⟩
noncomputable def C6o (gl0:(List (List TQ))→(List (List TQ))→Int→Int→Option R78):List (C6 R78):=[⟨6,C3K,fun s=>gl0 s.1.1 s.1.2.1 s.1.2.2.1 s.1.2.2.2.1⟩]
noncomputable def C7i (c140:(List TQ)→(List TQ)→Option A2S):List FE:=[C8v c140]
section
variable (gl0:(List (List TQ))→(List (List TQ))→Int→Int→Option R78) (c140:(List TQ)→(List TQ)→Option A2S)
noncomputable def A6R (x0:(List (List TQ))) (x1:(List (List TQ))) (x18:Int) (x19:Int):Option R78:=if x19<x18 then(if 0≤x19 then(if x19<(x0.length:Int)then(if 0≤x19 then(if x19<(x1.length:Int)then((c140 (C2 ([]:List TQ) x0 x19) (C2 ([]:List TQ) x1 x19)).bind fun r1=>(if r1≠0 then(some r1)else(gl0 x0 x1 x18 (wrap64 (x19+1)))))else(none))else(none))else(none))else(none))else(some 0)
theorem F1j (s0:C3 D78.ask.bl) (s:C3K.T):D78.po E0 (C7i c140) (C6o gl0) s0 0 (C3K.mk' s)=A6R gl0 c140 s.1.1 s.1.2.1 s.1.2.2.1 s.1.2.2.2.1:=by kernel_rfl
noncomputable def B78 (x0:(List (List TQ))) (x1:(List (List TQ))):Option R78:=if(x0.length:Int)≠(x1.length:Int)then(if(x0.length:Int)<(x1.length:Int)then(some (-1))else(some 1))else(gl0 x0 x1 (x0.length:Int) 0)
theorem e78 (s:D78.ask.T):D78.ev E0 (C7i c140) (C6o gl0) s=B78 gl0 s.1.1 s.1.2.1:=by kernel_rfl
end
noncomputable def C9N (c12:(List TQ)→(List (List (List TQ)))→Option R12) (c13:(List TQ)→Option R3) (c14:(List TQ)→(List (List TQ))→Option a9) (c16:Option R16) (c34:(List Int)→Option R34) (c38Checks1:(List (List TQ))→Int→Int→((List (List TQ))×Unit)→Option A9t) (c38Checks2:(List (List TQ))→Int→Int→((List TQ)×Unit)→Option A9X) (c46:(List TQ)→(List TQ)→Option R46) (c69:(List TQ)→Option X8) (c70:(List TQ)→Int→Option o5) (c71:(List TQ)→(List (List TQ))→Option R71) (c72:(List TQ)→(List (List TQ))→Option R72) (c76:(List TQ)→Option R76) (c77:(List (List TQ))→(List (List TQ))→Option R77) (c78:(List (List TQ))→(List (List TQ))→Option R78):List FE:=[D4s c12,A6J c13,B3w c14,D5o c16,D1t c34,C9T c38Checks1,D3J c38Checks2,C8p c46,B2r c69,C7a c70,D5z c71,D1b c72,C4W c76,D0W c77,D4p c78]
section
variable (c12:(List TQ)→(List (List (List TQ)))→Option R12) (c13:(List TQ)→Option R3) (c14:(List TQ)→(List (List TQ))→Option a9) (c16:Option R16) (c34:(List Int)→Option R34) (c38Checks1:(List (List TQ))→Int→Int→((List (List TQ))×Unit)→Option A9t) (c38Checks2:(List (List TQ))→Int→Int→((List TQ)×Unit)→Option A9X) (c46:(List TQ)→(List TQ)→Option R46) (c69:(List TQ)→Option X8) (c70:(List TQ)→Int→Option o5) (c71:(List TQ)→(List (List TQ))→Option R71) (c72:(List TQ)→(List (List TQ))→Option R72) (c76:(List TQ)→Option R76) (c77:(List (List TQ))→(List (List TQ))→Option R77) (c78:(List (List TQ))→(List (List TQ))→Option R78)
noncomputable def B11 (x0:(List TQ)) (x1:(List (List TQ))) (x2:(List TQ)):Option R11:=(c12 x0 ([x1]:List (List (List TQ)))).bind fun r1=>(B2 (r1) ((c16).bind fun r2=>(some r2)) ((c69 x2).bind fun r3=>(if r3=0 then((c70 x2 8).bind fun r4=>(B2 ((!r4)) ((c16).bind fun r5=>(some r5)) ((c14 x0 x1).bind fun r6=>((c13 x0).bind fun r7=>((c69 x2).bind fun r8=>((c34 ([r7,r8]:List Int)).bind fun r9=>((c71 x0 x1).bind fun r10=>((c46 x0 x2).bind fun r11=>((c72 x0 x1).bind fun r12=>(if r12≠r6 then(some false)else((c38Checks1 r10.1 r10.2 r6 (x1,())).bind fun r13=>(B2 ((!r13)) (some false) ((c38Checks2 r11.1 r11.2 r9 (x2,())).bind fun r14=>(B2 ((!r14)) (some false) (if r6≠0 then((c16).bind fun r15=>(some r15))else(if r9≠0 then((c16).bind fun r16=>(some r16))else((c76 x2).bind fun r17=>((c77 x1 x1).bind fun r18=>(if r18=0 then((c77 x1 r17).bind fun r19=>((c78 x1 r17).bind fun r20=>(if r19=r20 then((c77 r17 x1).bind fun r21=>((c78 r17 x1).bind fun r22=>(if r21=r22 then((c16).bind fun r23=>(some r23))else(some false))))else(some false))))else(some false))))))))))))))))))))else((c14 x0 x1).bind fun r24=>((c13 x0).bind fun r25=>((c69 x2).bind fun r26=>((c34 ([r25,r26]:List Int)).bind fun r27=>((c71 x0 x1).bind fun r28=>((c46 x0 x2).bind fun r29=>((c72 x0 x1).bind fun r30=>(if r30≠r24 then(some false)else((c38Checks1 r28.1 r28.2 r24 (x1,())).bind fun r31=>(B2 ((!r31)) (some false) ((c38Checks2 r29.1 r29.2 r27 (x2,())).bind fun r32=>(B2 ((!r32)) (some false) (if r24≠0 then((c16).bind fun r33=>(some r33))else(if r27≠0 then((c16).bind fun r34=>(some r34))else((c76 x2).bind fun r35=>((c77 x1 x1).bind fun r36=>(if r36=0 then((c77 x1 r35).bind fun r37=>((c78 x1 r35).bind fun r38=>(if r37=r38 then((c77 r35 x1).bind fun r39=>((c78 r35 x1).bind fun r40=>(if r39=r40 then((c16).bind fun r41=>(some r41))else(some false))))else(some false))))else(some false)))))))))))))))))))))
theorem e11 (s:D11.ask.T):D11.ev E0 (C9N c12 c13 c14 c16 c34 c38Checks1 c38Checks2 c46 c69 c70 c71 c72 c76 c77 c78) [] s=B11 c12 c13 c14 c16 c34 c38Checks1 c38Checks2 c46 c69 c70 c71 c72 c76 c77 c78 s.1.1 s.1.2.1 s.1.2.2.1:=by kernel_rfl
end
end Go.Proofs.YtijohnkgomcdbaaGreatV
namespace Go.Proofs.YtijohnkgomcdbaaGreatE
open Go.RowKit Go.Proofs.YtijohnkgomcdbaaGreatW.PrintWords Go.Proofs.YtijohnkgomcdbaaGreatW.PrintLast Go.Proofs.YtijohnkgomcdbaaGreatW.PrintMore
section
variable {α β:Type}
theorem A0.iteL {p:Prop} [Decidable p] {a b t:Option α} (h1:p→A0 a t) (h2:¬p→A0 b t):A0 (if p then a else b) t:=by
 by_cases h:p
 ·rw [if_pos h];exact h1 h
 ·rw [if_neg h];exact h2 h
theorem A0.bindL {x:Option β} {f:β→Option α} {t:Option α} (h:∀v,x=some v→A0 (f v) t):A0 (x.bind f) t:=by
 cases hx:x with
 |none=>intro r hr;cases hr
 |some v=>exact h v hx
theorem A0.bindK {x:Option β} {v:β} {f:β→Option α} {t:Option α} (hx:x=some v) (h:A0 (f v) t):A0 (x.bind f) t:=by rw [hx];exact h
theorem A0.posL {p:Prop} [Decidable p] {t a b:Option α} (hp:p) (h:A0 a t):A0 (if p then a else b) t:=by rw [if_pos hp];exact h
theorem A0.negL {p:Prop} [Decidable p] {t a b:Option α} (hp:¬p) (h:A0 b t):A0 (if p then a else b) t:=by rw [if_neg hp];exact h
theorem A0.posR {p:Prop} [Decidable p] {t a b:Option α} (hp:p) (h:A0 t a):A0 t (if p then a else b):=by rw [if_pos hp];exact h
theorem A0.negR {p:Prop} [Decidable p] {t a b:Option α} (hp:¬p) (h:A0 t b):A0 t (if p then a else b):=by rw [if_neg hp];exact h
theorem A0.nnegR {p:Prop} [Decidable p] {t a b:Option α} (hp:p) (h:A0 t b):A0 t (if¬p then a else b):=by rw [if_neg (fun q=>q hp)];exact h
theorem A0.bindR {x:Option β} {v:β} {f:β→Option α} {t:Option α} (hx:x=some v) (h:A0 t (f v)):A0 t (x.bind f):=by rw [hx];exact h
theorem A0.ctR {b:Bool} {t x y:Option α} (hp:b=true) (h:A0 t x):A0 t (B2 b x y):=by rw [hp];exact h
theorem A0.cfR {b:Bool} {t x y:Option α} (hp:¬b=true) (h:A0 t y):A0 t (B2 b x y):=by
 rw [Bool.eq_false_iff.2 hp];exact h
theorem H4:ByteArray.empty=⟨#[]⟩:=id rfl
theorem I2 (x:Int):IntKind.u64.wrap (x%256)=x%256:=by
 show x%256%18446744073709551616=x%256
 omega
theorem H2 (b:Bool):(b=false)=¬(b=true):=by cases b<;>simp
theorem H1 {p q:Prop} [Decidable (p∧q)] [Decidable p] [Decidable q] (a b:α):(if p∧q then a else b)=if p then(if q then a else b)else b:=by
 by_cases h:p<;>by_cases k:q<;>simp [h,k]
theorem H0 {p q:Prop} [Decidable (p∨q)] [Decidable p] [Decidable q] (a b:α):(if p∨q then a else b)=if p then a else(if q then a else b):=by
 by_cases h:p<;>by_cases k:q<;>simp [h,k]
theorem A0G {τ:Type} (l:List τ) (i h:Int):slice_ l i h=(l.take h.toNat).drop i.toNat:=id rfl
theorem F9 (a:β) (f:β→Option α):(some a).bind f=f a:=id rfl
theorem j8 {γ:Type} (x:Option γ) (f:γ→Option β) (g:β→Option α):(x.bind f).bind g=x.bind fun y=>(f y).bind g:=by cases x<;>rfl
theorem Y2 {p:Prop} [Decidable p] (x y:Option β) (f:β→Option α):(if p then x else y).bind f=if p then x.bind f else y.bind f:=by by_cases h:p<;>simp [h]
theorem I0 (l:List UInt8):l.isEmpty=(l==[]):=by cases l<;>rfl
theorem H7 (x:Int):IntKind.u8.wrap x=x%256:=id rfl
theorem H8 (a:Array UInt8):(⟨a⟩:ByteArray).toList=a.toList:=ByteArray.toList_eq _
theorem i8 (b:Bool) (x y:Option α):B2 b x y=if b=true then x else y:=by cases b<;>rfl
theorem H5 (x y:Int):(x==y)=decide (x=y):=id rfl
theorem BR {g:Prop} (h:g:=by
 (try simp only [F1,List.take_append_drop,List.drop_length,List.append_nil,Int.zero_sub,Int.toNat_natCast,Int.reduceToNat,Int.zero_add,List.take_zero,List.nil_append,List.append_assoc,List.length_set,Y2,List.take_left,H4,bne,H5,decide_not,I2,if_true,if_false,Bool.false_eq_true,j8,A0G,List.drop_zero,List.take_length,H7,F9,i8,C2,ite_not,Bool.and_eq_true,Bool.or_eq_true,Bool.not_eq_true',H2,Bool.not_eq_false',beq_iff_eq,decide_eq_true_eq,I0,H1,H0,ne_eq,H8,List.toList_toArray])
 repeat' first
 | (with_reducible exact A0.none _)
 | (with_reducible exact A0.refl _)
 | (with_reducible refine A0.posR (by with_reducible assumption) ?_)
 | (with_reducible refine A0.negR (by with_reducible assumption) ?_)
 | (with_reducible refine A0.nnegR (by with_reducible assumption) ?_)
 | (with_reducible refine A0.bindR (by with_reducible assumption) ?_)
 | (with_reducible refine A0.ctR (by with_reducible assumption) ?_)
 | (with_reducible refine A0.cfR (by with_reducible assumption) ?_)
 | (with_reducible refine A0.posL (by with_reducible assumption) ?_)
 | (with_reducible refine A0.negL (by with_reducible assumption) ?_)
 | (with_reducible refine A0.iteL (fun _=>?_) (fun _=>?_))
 | (with_reducible refine A0.bindK (by with_reducible assumption) ?_)
 | (with_reducible refine A0.bindL (fun _ _=>?_))
 | (refine A0.posR (by first|decide|exact Int.le_refl _|omega|assumption) ?_)
 | (refine A0.negR (by first|decide|omega) ?_)):g:=h
end
end Go.Proofs.YtijohnkgomcdbaaGreatE
namespace Go.Proofs.YtijohnkgomcdbaaGreatV
open Go Go.RowKit YtijohnkgomcdbaaGreat YtijohnkgomcdbaaGreatE
noncomputable abbrev L2 (k:Nat) (x0:Int) (x1:Int) (x2:Int):Option A3X:=All.bits_Add64.f x0 x1 x2
noncomputable abbrev Y5 (k:Nat) (x0:Int) (x1:Int) (x2:Int):Option A7N:=All.bits_Sub64.f x0 x1 x2
noncomputable abbrev B2n (k:Nat) (x0:Int):Option B1d:=All.bits_Len64.f x0
noncomputable abbrev K3 (k:Nat) (y0:List Int):Option e9:=(All.exact_trim.f k y0).bind fun r=>some ((r.length:Int),r++y0.drop r.length)
noncomputable abbrev W7 (k:Nat) (y0:List Int):Option p9:=(All.galoisref01_trim.f k y0).bind fun r=>some ((r.length:Int),r++y0.drop r.length)
noncomputable abbrev k8 (k:Nat) (x1:List Int) (y0:List Int):Option A0u:=(All.galoisref01_below.f k y0 x1).bind fun r=>some (r,y0)
noncomputable abbrev A5d (k:Nat) (x0:(List TQ)):Option B1n:=A7n x0
end Go.Proofs.YtijohnkgomcdbaaGreatV
set_option maxRecDepth 100000
namespace Go.Proofs.YtijohnkgomcdbaaGreatV
open Go Go.RowKit YtijohnkgomcdbaaGreat YtijohnkgomcdbaaGreatE YtijohnkgomcdbaaGreatW.PrintWords YtijohnkgomcdbaaGreatW.PrintLast YtijohnkgomcdbaaGreatW.PrintMore
noncomputable abbrev P5 (k:Nat) (x0:(List TQ)):Option R15:=B15 x0
noncomputable abbrev t7 (k:Nat) (x0:TI):Option A5g:=All.galoisref02_Sign.f x0.1 x0.2
noncomputable abbrev P1 (k:Nat) (x0:TQ):Option A5W:=B1m (t7 k) x0
noncomputable abbrev W6 (k:Nat) (x0:ByteArray):Option A5G:=All.galoisref01_Valid.f x0
noncomputable abbrev w7 (k:Nat) (x0:TI):Option A8p:=All.galoisref02_Valid.f x0.1 x0.2
noncomputable abbrev k9 (k:Nat) (x0:ByteArray):Option A4a:=All.galoisref01_Fits.f x0
noncomputable abbrev A3B (k:Nat) (x0:TI):Option B0q:=All.galoisref02_Fits.f x0.1 x0.2
noncomputable abbrev V6 (k:Nat) (x0:TQ):Option B0H:=A9W (A3B k) (k9 k) x0
noncomputable abbrev N0 (k:Nat) (x0:(List Int)):Option T5:=All.galoisref01_pack.f k x0
noncomputable abbrev Q9 (k:Nat) (x0:ByteArray):Option W9:=All.galoisref01_limbs.f k x0
noncomputable abbrev j6 (k:Nat) (x0:ByteArray) (x1:ByteArray):Option Q5:=All.galoisref01_DivMod.f k x0 x1
noncomputable abbrev U7 (k:Nat) (x0:ByteArray) (x1:ByteArray):Option m6:=All.galoisref01_Gcd.f k x0 x1
noncomputable abbrev J9 (k:Nat) (x0:TQ):Option A5F:=A4I (w7 k) (W6 k) (V6 k) (U7 k) x0
noncomputable def o6:Nat→(List TQ)→(List TQ)→Int→Int→Option X8
 |0,_,_,_,_=>none
 |k+1,x0,x9,x10,x11=>A5j (o6 k) (P1 k) (J9 k) x0 x9 x10 x11
noncomputable abbrev M1 (k:Nat) (x0:(List TQ)):Option X8:=B69 (o6 k) x0
noncomputable abbrev A7G (k:Nat) (x0:Int):Option A9g:=All.galoisref01_Of.f k x0
noncomputable abbrev A4Y (k:Nat) (x0:Int):Option A8G:=All.galoisref02_FromInt.f k x0
noncomputable abbrev J7 (k:Nat) (x0:Int):Option R81:=B81 (A4Y k) x0
noncomputable abbrev A3D (k:Nat) (x0:(List TQ)):Option R80:=B80 (J7 k) x0
noncomputable abbrev A1l (k:Nat) (x0:TQ):Option R82:=B82 x0
noncomputable def q7:Nat→(List TQ)→Int→Int→(List TQ)→Option R3
 |0,_,_,_,_=>none
 |k+1,x24,x25,x26,x1=>A7P (q7 k) (P5 k) (A1l k) x24 x25 x26 x1
noncomputable abbrev G7 (k:Nat) (x0:(List TQ)):Option R3:=B13 (q7 k) (M1 k) (A3D k) (J7 k) x0
noncomputable abbrev A0z (k:Nat) (x0:(List TQ)) (x1:(List TQ)):Option R55:=B55 (G7 k) (P5 k) (M1 k) x0 x1
noncomputable def A0O:Nat→(List (List TQ))→(List (List TQ))→Int→Int→(List TQ)→Option a9
 |0,_,_,_,_,_=>none
 |k+1,x1,x16,x17,x18,x2=>A7R (A0O k) (A0z k) x1 x16 x17 x18 x2
noncomputable abbrev Q2 (k:Nat) (x0:(List TQ)) (x1:(List (List TQ))):Option a9:=B14 (A0O k) (G7 k) x0 x1
noncomputable def v8:Nat→(List TQ)→Int→Int→Option o5
 |0,_,_,_=>none
 |k+1,x17,x18,x19=>A7M (v8 k) x17 x18 x19
noncomputable abbrev j7 (k:Nat) (x0:(List TQ)) (x1:Int):Option o5:=B70 (v8 k) (M1 k) x0 x1
noncomputable abbrev A1c (k:Nat) (x0:(List TQ)) (x1:(List TQ)):Option R49:=B49 (G7 k) (P5 k) (j7 k) x0 x1
noncomputable def n6:Nat→(List TQ)→Int→Int→Option z9
 |0,_,_,_=>none
 |k+1,x19,x20,x21=>A6p (n6 k) x19 x20 x21
noncomputable abbrev V8 (k:Nat) (x0:(List TQ)) (x1:Int):Option z9:=B79 (n6 k) (G7 k) x0 x1
noncomputable def A0J:Nat→(List (List TQ))→Int→Int→(List TQ)→Option R26
 |0,_,_,_,_=>none
 |k+1,x28,x29,x30,x4=>A6u (A0J k) (A1c k) x28 x29 x30 x4
noncomputable abbrev A0q (k:Nat) (x0:(List TQ)) (x1:(List (List TQ))) (x2:Int) (x3:Int):Option R26:=B26 (A0J k) (Q2 k) (V8 k) x0 x1 x2 x3
noncomputable def q9:Nat→(List (List (List TQ)))→Int→Int→(List TQ)→Option R12
 |0,_,_,_,_=>none
 |k+1,x10,x11,x12,x2=>A6P (q9 k) (Q2 k) (A0q k) (V8 k) x10 x11 x12 x2
noncomputable abbrev A3P (k:Nat) (x0:(List TQ)) (x1:(List (List (List TQ)))):Option R12:=B12 (q9 k) (G7 k) x0 x1
noncomputable abbrev T2 (k:Nat) (x0:TI):Option A2n:=A7S x0
noncomputable abbrev n7 (k:Nat) (x0:(List Int)):Option A0r:=All.exact_trim.f k x0
noncomputable abbrev G1 (k:Nat) (x0:(List Int)):Option J3:=All.exact_pack.f k x0
noncomputable abbrev A7F (k:Nat) (x0:Int):Option A8O:=All.exact_NatOf.f k x0
noncomputable abbrev A4i (k:Nat) (x0:Int):Option B0J:=All.exact_IntOf.f k x0
noncomputable abbrev D7 (k:Nat) (x0:Int):Option S5:=B89 (T2 k) (A4i k) x0
noncomputable abbrev J1 (k:Nat) (x0:TQ):Option A0W:=C3c x0
noncomputable abbrev T7 (k:Nat) (x0:ByteArray):Option A4j:=All.natural_Check.f k x0
noncomputable abbrev A6d (k:Nat):Option B0W:=All.integer_zero.f
noncomputable abbrev d5 (k:Nat) (x0:TI):Option B0D:=All.integer_Check.f k x0.1 x0.2
noncomputable abbrev H6 (k:Nat) (x0:ByteArray):Option R9:=All.exact_words.f k x0
noncomputable abbrev t5 (k:Nat) (x0:(List Int)) (x1:(List Int)):Option A1e:=All.exact_compareWords.f k x0 x1
noncomputable abbrev R4 (k:Nat) (x0:Int):Option A4q:=All.bits_LeadingZeros64.f x0
noncomputable abbrev P0 (k:Nat) (x0:Int) (x1:Int) (x2:Int):Option W3:=All.bits_Div64.f k x0 x1 x2
noncomputable abbrev v6 (k:Nat) (x0:(List Int)) (x1:Int):Option A2U:=All.exact_shiftUp.f k x0 x1
noncomputable abbrev P7 (k:Nat) (x0:Int) (x1:Int):Option A4x:=All.bits_Mul64.f x0 x1
noncomputable abbrev l7 (k:Nat) (x1:(List Int)) (y0:(List Int)):Option T4:=All.exact_step.f k y0 x1
noncomputable abbrev v4 (k:Nat) (x0:(List Int)) (x1:(List Int)):Option Q4:=All.exact_divide.f k x0 x1
noncomputable abbrev R5 (k:Nat) (x0:ByteArray) (x1:ByteArray):Option u9:=All.exact_NatGcd.f k x0 x1
noncomputable abbrev L4 (k:Nat) (x0:TQ):Option B0Q:=A2T (d5 k) (T7 k) (R5 k) x0
noncomputable def t3:Nat→(List TQ)→(List TQ)→Int→Int→Option f7
 |0,_,_,_,_=>none
 |k+1,x0,x9,x10,x11=>A6A (t3 k) (J1 k) (L4 k) x0 x9 x10 x11
noncomputable abbrev R8 (k:Nat) (x0:(List TQ)):Option f7:=B3a (t3 k) x0
noncomputable abbrev A6r (k:Nat) (x0:TQ):Option A8d:=C0H x0
noncomputable abbrev A1k (k:Nat) (x0:TQ):Option B0e:=C7F (A6r k) x0
noncomputable def A0C:Nat→(List TQ)→Int→Int→Option A2E
 |0,_,_,_=>none
 |k+1,x0,x7,x8=>A6v (A0C k) (A1k k) x0 x7 x8
noncomputable abbrev A4l (k:Nat) (x0:(List TQ)):Option A2E:=B3I (A0C k) x0
noncomputable abbrev A4A (k:Nat) (x0:(List TQ)):Option A8E:=B9l (A4l k) x0
noncomputable abbrev P6 (k:Nat) (x0:(List TQ)):Option A2w:=B1i (D7 k) (R8 k) (A4A k) x0
noncomputable abbrev c7 (k:Nat) (x0:(List TQ)) (x1:(List TQ)):Option A4P:=B1s (R8 k) x0 x1
noncomputable def z6:Nat→(List (List TQ))→(List (List TQ))→Int→Int→(List TQ)→Option A0N
 |0,_,_,_,_,_=>none
 |k+1,x1,x11,x12,x13,x2=>A7B (z6 k) (c7 k) x1 x11 x12 x13 x2
noncomputable abbrev Z4 (k:Nat) (x0:(List TQ)) (x1:(List (List TQ))):Option A0N:=B2H (z6 k) x0 x1
noncomputable def A0B:Nat→(List (List (List TQ)))→Int→Int→(List TQ)→Option T9
 |0,_,_,_,_=>none
 |k+1,x14,x15,x16,x2=>A6O (A0B k) (Z4 k) x14 x15 x16 x2
noncomputable abbrev J2 (k:Nat) (x0:(List TQ)) (x1:(List (List (List TQ)))):Option T9:=B83 (A0B k) (P6 k) x0 x1
noncomputable abbrev w9 (k:Nat) (x0:(List Int)) (x1:(List Int)):Option X3:=All.exact_mulWords.f k x0 x1
noncomputable abbrev O1 (k:Nat) (x0:ByteArray) (x1:ByteArray):Option A0g:=All.exact_NatMul.f k x0 x1
noncomputable abbrev I1 (k:Nat) (x0:Bool) (x1:ByteArray):Option V3:=All.exact_IntMake.f x0 x1
noncomputable abbrev A2g (k:Nat) (x0:TI) (x1:TI):Option A8z:=All.exact_IntMul.f k x0.1 x0.2 x1.1 x1.2
noncomputable abbrev A4B (k:Nat) (x0:ByteArray) (x1:ByteArray):Option B0n:=All.exact_NatDivMod.f k x0 x1
noncomputable abbrev Y3 (k:Nat) (x0:TI) (x1:TI):Option A4r:=B1J (I1 k) (R5 k) (A4B k) x0 x1
noncomputable abbrev F3 (k:Nat) (x0:TQ) (x1:TQ):Option f9:=B0w (T2 k) (A2g k) (Y3 k) (O1 k) x0 x1
noncomputable abbrev A1U (k:Nat) (x0:ByteArray) (x1:Int):Option l5:=All.exact_NatPow.f k x0 x1
noncomputable abbrev A6I (k:Nat) (x0:TI) (x1:Int):Option B1B:=C6J (A1U k) (I1 k) x0 x1
noncomputable abbrev A4k (k:Nat) (x0:TQ) (x1:Int):Option B0N:=B8Q (A6I k) (A1U k) x0 x1
noncomputable abbrev A6i (k:Nat) (x0:TI):Option A9U:=All.exact_IntNeg.f x0.1 x0.2
noncomputable abbrev A0S (k:Nat) (x0:TQ):Option A5D:=C7n (A6i k) x0
noncomputable abbrev A6W (k:Nat) (x0:ByteArray) (x1:ByteArray):Option A2Y:=All.exact_NatAdd.f k x0 x1
noncomputable abbrev A2D (k:Nat) (x0:ByteArray) (x1:ByteArray):Option A5U:=All.exact_NatCmp.f k x0 x1
noncomputable abbrev A7b (k:Nat) (x0:ByteArray) (x1:ByteArray):Option A1j:=All.exact_NatSub.f k x0 x1
noncomputable abbrev A6s (k:Nat) (x0:TI) (x1:TI):Option A8S:=All.exact_IntAdd.f k x0.1 x0.2 x1.1 x1.2
noncomputable abbrev T3 (k:Nat) (x0:TQ) (x1:TQ):Option A3I:=C1u (T2 k) (Y3 k) (O1 k) (A6s k) (I1 k) x0 x1
noncomputable abbrev O6 (k:Nat) (x0:TQ) (x1:TQ):Option R88:=B88 (A0S k) (T3 k) x0 x1
noncomputable def m8:Nat→(List TQ)→Int→Option M8
 |0,_,_=>none
 |k+1,x0,x3=>A5y (m8 k) (J1 k) x0 x3
noncomputable abbrev D8 (k:Nat) (x0:(List TQ)):Option M8:=B92 (m8 k) x0
noncomputable abbrev U3 (k:Nat) (x0:TQ):Option A2o:=C5Z x0
noncomputable abbrev C6l (k:Nat) (x0:(List TQ)):Option B6c:=C3T x0
noncomputable abbrev C5F (k:Nat) (x0:(List TQ)):Option B6l:=A7n x0
mutual
noncomputable def A1V:Nat→(List TQ)→(List TQ)→Int→Int→Int→(List TQ)→(List TQ)→Option O9
 |0,_,_,_,_,_,_,_=>none
 |k+1,x0,x1,x7,x30,x31,x6,x8=>C7w (A1V k) (t8 k) (D7 k) (U3 k) x0 x1 x7 x30 x31 x6 x8
noncomputable def t8:Nat→(List TQ)→Int→Int→(List TQ)→(List TQ)→TQ→Option O9
 |0,_,_,_,_,_,_=>none
 |k+1,x1,x7,x11,x6,x8,x10=>B8Z (t8 k) (A1S k) (D8 k) (F3 k) (J1 k) x1 x7 x11 x6 x8 x10
noncomputable def A1S:Nat→(List TQ)→Int→Int→Int→Int→(List TQ)→(List TQ)→TQ→TQ→Option O9
 |0,_,_,_,_,_,_,_,_,_=>none
 |k+1,x1,x7,x11,x69,x70,x6,x8,x10,x12=>C5l (t8 k) (A1S k) (O6 k) (F3 k) x1 x7 x11 x69 x70 x6 x8 x10 x12
end
noncomputable abbrev X0 (k:Nat) (x0:(List TQ)) (x1:(List TQ)):Option O9:=B9v (A1V k) (A5d k) x0 x1
noncomputable def A4G:Nat→(List TQ)→(List TQ)→TQ→TQ→Option R84
 |0,_,_,_,_=>none
 |k+1,x0,x1,x4,x5=>C4c (A4G k) (D7 k) (F3 k) (A4k k) (X0 k) (A0S k) x0 x1 x4 x5
noncomputable abbrev A2N (k:Nat) (x0:(List TQ)) (x1:(List TQ)):Option R84:=B84 (A4G k) (D7 k) x0 x1
noncomputable abbrev s9 (k:Nat) (x0:(List TQ)) (x1:Int):Option A4n:=C1m (D7 k) x0 x1
noncomputable def A4D:Nat→(List TQ)→(List TQ)→Int→Int→(List TQ)→Option X1
 |0,_,_,_,_,_=>none
 |k+1,x0,x1,x14,x15,x5=>C3F (A4D k) (D8 k) (T3 k) (s9 k) x0 x1 x14 x15 x5
noncomputable abbrev K6 (k:Nat) (x0:(List TQ)) (x1:(List TQ)):Option X1:=B90 (A4D k) x0 x1
mutual
noncomputable def A1o:Nat→(List TQ)→(List TQ)→Int→Int→(List TQ)→Option M6
 |0,_,_,_,_,_=>none
 |k+1,x0,x1,x27,x28,x5=>C3f (A1o k) (n8 k) (D7 k) x0 x1 x27 x28 x5
noncomputable def n8:Nat→(List TQ)→(List TQ)→Int→Int→(List TQ)→Option M6
 |0,_,_,_,_,_=>none
 |k+1,x1,x36,x37,x38,x5=>B9d (n8 k) (A1E k) (D8 k) (J1 k) x1 x36 x37 x38 x5
noncomputable def A1E:Nat→(List TQ)→Int→(List TQ)→Int→Int→(List TQ)→Int→Int→(List TQ)→TQ→Option M6
 |0,_,_,_,_,_,_,_,_,_,_=>none
 |k+1,x1,x7,x36,x37,x38,x45,x46,x47,x5,x8=>C5V (n8 k) (A1E k) (F3 k) (T3 k) x1 x7 x36 x37 x38 x45 x46 x47 x5 x8
end
noncomputable abbrev L7 (k:Nat) (x0:(List TQ)) (x1:(List TQ)):Option M6:=B91 (A1o k) x0 x1
noncomputable abbrev R2 (k:Nat) (x0:(List TQ)) (x1:(List TQ)):Option A2s:=C3k (X0 k) x0 x1
noncomputable abbrev S3 (k:Nat) (x0:(List TQ)) (x1:(List TQ)) (x2:(List TQ)):Option A2z:=C5b (L7 k) (R2 k) x0 x1 x2
noncomputable def A3e:Nat→(List (List TQ))→(List TQ)→(List TQ)→Int→(List TQ)→Option R85
 |0,_,_,_,_,_=>none
 |k+1,x1,x2,x7,x8,x3=>C8E (A3e k) (K6 k) (S3 k) x1 x2 x7 x8 x3
noncomputable abbrev A1d (k:Nat) (x0:(List TQ)) (x1:(List (List TQ))) (x2:(List TQ)):Option R85:=B85 (A3e k) x0 x1 x2
noncomputable def A3n:Nat→(List Int)→Int→Int→(List TQ)→Option X6
 |0,_,_,_,_=>none
 |k+1,x9,x10,x11,x3=>B8y (A3n k) (D7 k) (D8 k) x9 x10 x11 x3
noncomputable abbrev K8 (k:Nat) (x0:(List Int)):Option X6:=B86 (A3n k) x0
noncomputable abbrev A1X (k:Nat) (x0:TQ) (x1:TQ):Option R87:=B87 (F3 k) (U3 k) x0 x1
noncomputable abbrev A2K (k:Nat) (x0:TQ):Option B0P:=B1M x0
noncomputable def z5:Nat→(List TQ)→Int→Int→Option A1I
 |0,_,_,_=>none
 |k+1,x0,x7,x8=>A5v (z5 k) (A2K k) x0 x7 x8
noncomputable abbrev A4c (k:Nat) (x0:(List TQ)):Option A1I:=B2h (z5 k) x0
noncomputable abbrev A0V (k:Nat) (x0:(List TQ)):Option A5B:=B8r (A4c k) x0
noncomputable abbrev A0y (k:Nat) (x0:(List TQ)):Option R93:=B93 (A0V k) x0
mutual
noncomputable def A0T:Nat→(List (List TQ))→Int→Int→Int→(List TQ)→(List TQ)→Option O5
 |0,_,_,_,_,_,_=>none
 |k+1,x1,x7,x38,x39,x2,x8=>C2i (A0T k) (A0R k) (A2N k) (A1d k) (K8 k) x1 x7 x38 x39 x2 x8
noncomputable def A0R:Nat→Int→Int→(List TQ)→Option O5
 |0,_,_,_=>none
 |k+1,x7,x10,x8=>C6N (A0d k) (A0Y k) x7 x10 x8
noncomputable def A0d:Nat→Int→Int→Int→(List TQ)→Option O5
 |0,_,_,_,_=>none
 |k+1,x7,x10,x11,x8=>C1Y (A0R k) (A0d k) (A1X k) (O6 k) (D7 k) x7 x10 x11 x8
noncomputable def A0Y:Nat→(List TQ)→Int→(List TQ)→Option O5
 |0,_,_,_=>none
 |k+1,x12,x13,x8=>C5M (A0Y k) (K8 k) (K6 k) (L7 k) (D8 k) (A0y k) x12 x13 x8
end
noncomputable abbrev A7Z (k:Nat) (x0:(List TQ)) (x1:(List (List TQ))):Option O5:=B17 (A0T k) (J2 k) x0 x1
noncomputable def A0F:Nat→(List TQ)→(List TQ)→Int→Int→Option R18
 |0,_,_,_,_=>none
 |k+1,x0,x1,x12,x13=>A6X (A0F k) x0 x1 x12 x13
noncomputable abbrev d9 (k:Nat) (x0:(List TQ)) (x1:(List TQ)):Option R18:=B18 (A0F k) x0 x1
noncomputable def l6:Nat→(List TQ)→Int→Option b8
 |0,_,_=>none
 |k+1,x0,x3=>A7Y (l6 k) (P1 k) x0 x3
noncomputable abbrev S6 (k:Nat) (x0:(List TQ)):Option b8:=B48 (l6 k) x0
noncomputable def A4E:Nat→(List Int)→Int→Int→(List TQ)→Option R22
 |0,_,_,_,_=>none
 |k+1,x6,x7,x8,x3=>C7Z (A4E k) (S6 k) (J7 k) x6 x7 x8 x3
noncomputable abbrev A7L (k:Nat) (x0:(List Int)):Option R22:=B22 (A4E k) x0
noncomputable def z7:Nat→(List TQ)→Int→Int→TQ→(List TQ)→Option o3
 |0,_,_,_,_,_=>none
 |k+1,x11,x12,x13,x3,x5=>A5u (z7 k) (D8 k) (F3 k) x11 x12 x13 x3 x5
noncomputable abbrev V7 (k:Nat) (x0:(List TQ)) (x1:TQ):Option o3:=B1Z (z7 k) x0 x1
noncomputable def A3q:Nat→(List TQ)→(List TQ)→Int→Int→(List TQ)→Option o4
 |0,_,_,_,_,_=>none
 |k+1,x0,x1,x14,x15,x5=>C1d (A3q k) (O6 k) (D8 k) (s9 k) x0 x1 x14 x15 x5
noncomputable abbrev i9 (k:Nat) (x0:(List TQ)) (x1:(List TQ)):Option o4:=C2o (A3q k) x0 x1
noncomputable def A3p:Nat→(List TQ)→(List TQ)→(List TQ)→(List TQ)→(List TQ)→Option A0E
 |0,_,_,_,_,_=>none
 |k+1,x0,x6,x7,x8,x9=>C1Z (A3p k) (L7 k) (V7 k) (X0 k) (U3 k) (R2 k) (i9 k) x0 x6 x7 x8 x9
noncomputable abbrev A1q (k:Nat) (x0:(List TQ)) (x1:(List TQ)):Option A0E:=B9y (A3p k) (K8 k) (R2 k) x0 x1
noncomputable def m4:Nat→(List (List TQ))→Int→Option O3
 |0,_,_=>none
 |k+1,x0,x3=>A7A (m4 k) x0 x3
noncomputable abbrev E3 (k:Nat) (x0:(List (List TQ))):Option O3:=B2G (m4 k) x0
mutual
noncomputable def A0a:Nat→(List (List TQ))→(List TQ)→Int→Int→(List TQ)→(List (List TQ))→(List (List TQ))→Option X7
 |0,_,_,_,_,_,_,_=>none
 |k+1,x2,x3,x11,x13,x4,x10,x12=>C4i (A0a k) (A2d k) (E3 k) (S3 k) x2 x3 x11 x13 x4 x10 x12
noncomputable def A2d:Nat→(List (List TQ))→(List TQ)→Int→Int→(List TQ)→Int→Int→(List TQ)→(List (List TQ))→(List (List TQ))→Option X7
 |0,_,_,_,_,_,_,_,_,_,_=>none
 |k+1,x2,x3,x11,x13,x14,x60,x61,x4,x10,x12=>C2s (A0a k) (A2d k) (S3 k) (i9 k) x2 x3 x11 x13 x14 x60 x61 x4 x10 x12
end
noncomputable abbrev A0U (k:Nat) (x0:(List TQ)) (x1:(List (List TQ))) (x2:(List (List TQ))) (x3:(List TQ)):Option X7:=C5P (A0a k) (E3 k) x0 x1 x2 x3
noncomputable abbrev A1G (k:Nat) (x0:(List TQ)):Option A7x:=C6j (A0V k) x0
noncomputable def m5:Nat→(List (List TQ))→Int→Int→Option A1L
 |0,_,_,_=>none
 |k+1,x0,x7,x8=>A6N (m5 k) (A1G k) x0 x7 x8
noncomputable abbrev A5T (k:Nat) (x0:(List (List TQ))):Option A1L:=B3O (m5 k) x0
noncomputable abbrev A7c (k:Nat) (x0:(List (List TQ))):Option A8P:=C1a (A5T k) x0
noncomputable abbrev A3U (k:Nat) (x0:(List (List TQ))):Option A9T:=C2E (A7c k) x0
noncomputable abbrev M7 (k:Nat) (x0:(List (List TQ))):Option i5:=B1V (A3U k) x0
noncomputable abbrev A6Q (k:Nat) (x0:(List TQ)) (x1:(List (List TQ))) (x2:(List (List TQ))):Option R28:=B28 (J2 k) (A1q k) (A0U k) (M7 k) x0 x1 x2
noncomputable def t6:Nat→(List (List TQ))→(List (List TQ))→Int→Int→Option c9
 |0,_,_,_,_=>none
 |k+1,x0,x1,x12,x13=>A7d (t6 k) (d9 k) x0 x1 x12 x13
noncomputable abbrev S4 (k:Nat) (x0:(List (List TQ))) (x1:(List (List TQ))):Option c9:=B29 (t6 k) x0 x1
noncomputable def A3s:Nat→(List TQ)→(List (List TQ))→Int→Int→(List TQ)→(List (List TQ))→Option A2F
 |0,_,_,_,_,_,_=>none
 |k+1,x2,x13,x14,x15,x3,x7=>C6T (A3s k) (E3 k) (S3 k) x2 x13 x14 x15 x3 x7
noncomputable abbrev A7e (k:Nat) (x0:(List TQ)) (x1:(List (List TQ))) (x2:(List TQ)):Option A2F:=C2N (A3s k) x0 x1 x2
noncomputable abbrev A5Y (k:Nat) (x0:(List TQ)) (x1:(List (List TQ))):Option B0R:=B9M (A1q k) (A7e k) x0 x1
end Go.Proofs.YtijohnkgomcdbaaGreatV
