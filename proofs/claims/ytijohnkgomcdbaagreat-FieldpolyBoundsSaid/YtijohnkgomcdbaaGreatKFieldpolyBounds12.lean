/- Part of the proof of the statement FieldpolyBounds: lemmas on the model's steps, Lean functions that say what the program's functions compute, and proofs that the calls do just that. No hypothesis is added. -/
import Derived.Test.YtijohnkgomcdbaaGreatKFieldpolyBounds11
set_option linter.all false
set_option maxRecDepth 100000
namespace Go.Proofs.YtijohnkgomcdbaaGreatV
open Go Go.RowKit Go.Proofs.YtijohnkgomcdbaaGreat Go.Proofs.YtijohnkgomcdbaaGreatE Go.Proofs.YtijohnkgomcdbaaGreatW.PrintWords Go.Proofs.YtijohnkgomcdbaaGreatW.PrintLast Go.Proofs.YtijohnkgomcdbaaGreatW.PrintMore
theorem c11x1:isT (cs 11 1)=true:=by decide +kernel
theorem c2x5:isT (cs 2 5)=true:=by decide +kernel
theorem c8x1:isT (cs 8 1)=true:=by decide +kernel
theorem c4x1:isT (cs 4 1)=true:=by decide +kernel
theorem c1x1:isT (cs 1 1)=true:=by decide +kernel
end Go.Proofs.YtijohnkgomcdbaaGreatV
set_option maxRecDepth 100000
namespace Go.Proofs.YtijohnkgomcdbaaGreatV
open Go Go.RowKit YtijohnkgomcdbaaGreat YtijohnkgomcdbaaGreatE YtijohnkgomcdbaaGreatW.PrintWords YtijohnkgomcdbaaGreatW.PrintLast YtijohnkgomcdbaaGreatW.PrintMore
theorem small_ {n d:Nat} (hn:1≤n) (hd:1≤d) (h:n*d≤12):isT (cs n d)=true:=by
 have hn2:n≤12:=Nat.le_trans (Nat.le_mul_of_pos_right n hd) h
 have hh:n=1∨n=2∨n=3∨n=4∨n=5∨n=6∨n=7∨n=8∨n=9∨n=10∨n=11∨n=12:=by omega
 rcases hh with rfl|rfl|rfl|rfl|rfl|rfl|rfl|rfl|rfl|rfl|rfl|rfl
 ·have hd:d=1∨d=2∨d=3∨d=4∨d=5∨d=6∨d=7∨d=8∨d=9∨d=10∨d=11∨d=12:=by omega
  rcases hd with rfl|rfl|rfl|rfl|rfl|rfl|rfl|rfl|rfl|rfl|rfl|rfl
  ·exact c1x1
  ·exact c1x2
  ·exact c1x3
  ·exact c1x4
  ·exact c1x5
  ·exact c1x6
  ·exact c1x7
  ·exact c1x8
  ·exact c1x9
  ·exact c1x10
  ·exact c1x11
  ·exact c1x12
 ·have hd:d=1∨d=2∨d=3∨d=4∨d=5∨d=6:=by omega
  rcases hd with rfl|rfl|rfl|rfl|rfl|rfl
  ·exact c2x1
  ·exact c2x2
  ·exact c2x3
  ·exact c2x4
  ·exact c2x5
  ·exact c2x6
 ·have hd:d=1∨d=2∨d=3∨d=4:=by omega
  rcases hd with rfl|rfl|rfl|rfl
  ·exact c3x1
  ·exact c3x2
  ·exact c3x3
  ·exact c3x4
 ·have hd:d=1∨d=2∨d=3:=by omega
  rcases hd with rfl|rfl|rfl
  ·exact c4x1
  ·exact c4x2
  ·exact c4x3
 ·have hd:d=1∨d=2:=by omega
  rcases hd with rfl|rfl
  ·exact c5x1
  ·exact c5x2
 ·have hd:d=1∨d=2:=by omega
  rcases hd with rfl|rfl
  ·exact c6x1
  ·exact c6x2
 ·have hd:d=1:=by omega
  subst hd;exact c7x1
 ·have hd:d=1:=by omega
  subst hd;exact c8x1
 ·have hd:d=1:=by omega
  subst hd;exact c9x1
 ·have hd:d=1:=by omega
  subst hd;exact c10x1
 ·have hd:d=1:=by omega
  subst hd;exact c11x1
 ·have hd:d=1:=by omega
  subst hd;exact c12x1
theorem law_ev (a b:Int):Ev (fun k=>FX4 k a b) true:=by
 by_cases h1:a<1
 ·show Ev (fun k=>B4 (FX16 k) (FX17 k) (FX18 k) (FX20 k) (FX21 k) (FX22 k) (FX23 k) (FX24 k) (FX25 k) a b) true
  unfold B4
  exact ev_pos h1 (Ev.bind awake_ev (Ev.now _))
 by_cases h2:a>24
 ·show Ev (fun k=>B4 (FX16 k) (FX17 k) (FX18 k) (FX20 k) (FX21 k) (FX22 k) (FX23 k) (FX24 k) (FX25 k) a b) true
  unfold B4
  exact ev_neg h1 (ev_pos h2 (Ev.bind awake_ev (Ev.now _)))
 by_cases h3:b<1
 ·show Ev (fun k=>B4 (FX16 k) (FX17 k) (FX18 k) (FX20 k) (FX21 k) (FX22 k) (FX23 k) (FX24 k) (FX25 k) a b) true
  unfold B4
  exact ev_neg h1 (ev_neg h2 (ev_pos h3 (Ev.bind awake_ev (Ev.now _))))
 by_cases h4:b>64
 ·show Ev (fun k=>B4 (FX16 k) (FX17 k) (FX18 k) (FX20 k) (FX21 k) (FX22 k) (FX23 k) (FX24 k) (FX25 k) a b) true
  unfold B4
  exact ev_neg h1 (ev_neg h2 (ev_neg h3 (ev_pos h4 (Ev.bind awake_ev (Ev.now _)))))
 obtain⟨n,rfl⟩:∃n:Nat,a=n:=⟨a.toNat,by omega⟩
 obtain⟨d,rfl⟩:∃d:Nat,b=d:=⟨b.toNat,by omega⟩
 have hn:1≤n:=by omega
 have hn2:n≤24:=by omega
 have hd:1≤d:=by omega
 have hd2:d≤64:=by omega
 by_cases h5:n*d≤12
 ·exact cs_ev (small_ hn hd h5)
 have hp:n*d≤24*64:=Nat.mul_le_mul hn2 hd2
 have ew:wrap64 ((n:Int)*(d:Int))=((n*d:Nat):Int):=by rw [←Int.natCast_mul,w64_ (by omega) (by omega)]
 show Ev (fun k=>B4 (FX16 k) (FX17 k) (FX18 k) (FX20 k) (FX21 k) (FX22 k) (FX23 k) (FX24 k) (FX25 k) (n:Int) (d:Int)) true
 unfold B4
 rw [ew]
 by_cases h6:n*d≤64
 ·exact ev_neg h1 (ev_neg h2 (ev_neg h3 (ev_neg h4 (ev_pos (by omega) (ev_pos (by omega) (Ev.bind awake_ev (Ev.now _)))))))
 have q22:Ev (fun k=>FX22 k [1]) [i1]:=Ev.of (fun k=>m22 k _) (isL_eq f22a)
 have q22b:Ev (fun k=>FX22 k [-2]) [m2]:=Ev.of (fun k=>m22 k _) (isL_eq f22b)
 have q21:Ev (fun k=>FX21 k i1 (n:Int)) (mo n):=Ev.of (fun k=>m21 k _ _) (isL_eq (upTo_at f21 n hn hn2))
 have q20:Ev (fun k=>FX20 k (mo n) [m2]) (kz n):=Ev.of (fun k=>m20 k _ _) (isL_eq (upTo_at f20 n hn hn2))
 have q24:Ev (fun k=>FX24 k [i1] (d:Int)) (fm d):=Ev.of (fun k=>m24 k _ _) (isF_eq (upTo_at f24 d hd hd2))
 have q23:Ev (fun k=>FX23 k (fm d) [[i1]]) (fz d):=Ev.of (fun k=>m23 k _ _) (isF_eq (upTo_at f23 d hd hd2))
 refine ev_neg h1 (ev_neg h2 (ev_neg h3 (ev_neg h4 (ev_neg (by omega) (Ev.bind q22 (ev_pos (by decide) (ev_pos (by simp) (Ev.bind q21 (Ev.bind q22b (Ev.bind q20 (Ev.bind q22 (Ev.bind q24 (Ev.bind q22 (Ev.bind q23 (Ev.bind (norm_large hn hn2 hd hd2 (by omega)) ?_)))))))))))))))
 exact ev_pos (by omega) (ev_pos rfl (ev_pos rfl (Ev.bind awake_ev (Ev.now _))))
theorem law (a b:Int):∃k,FX4 k a b=some true:=by
 obtain⟨K,h⟩:=law_ev a b
 exact⟨K,h K (Nat.le_refl _)⟩
end Go.Proofs.YtijohnkgomcdbaaGreatV
namespace Go.Proofs.YtijohnkgomcdbaaGreat.Pure
open Go Go.RowKit Go.Proofs.YtijohnkgomcdbaaGreatW.PrintWords Go.Proofs.YtijohnkgomcdbaaGreatW.PrintLast
theorem FieldpolyBounds (a:Int) (ha:(Lit.int .i64 a).wf=true) (b:Int) (hb:(Lit.int .i64 b).wf=true) (w:World):
    Calls Tryz.prog 4 #[.int .i64 a, .int .i64 b] w fun e w'=>e= .returned (.bool true)∧Below w.heap.size w w':=
  Go.Proofs.YtijohnkgomcdbaaGreatV.calls4 a b (Go.Proofs.YtijohnkgomcdbaaGreatV.law a b) w
end Go.Proofs.YtijohnkgomcdbaaGreat.Pure
